/-
  The law BevelMitres.; Walks of package front: the front of a side.
-/
import Derived.Test.YtagkadlaeeoblaaGreatDoorBM21
import Derived.Test.YtagkadlaeeoblaaGreatDoorBM15
set_option maxRecDepth 100000
set_option maxHeartbeats 8000000
namespace Go.Proofs.YtagkadlaeeoblaaGreatDoor
section
open Go.RowKit Go.Shelf Kp
open Go.Lib (decDigits)
attribute [local go_sem] Oper.semAt_some
theorem zlZ(P:Program)(w:World)(a:Addr)(m:Mode)(fn:Fn)(first captured:Array Value):(store a (.func fn first captured) m).run P w=stored P w a (.func fn first captured) m:=run_store P w a _ m rfl
attribute [local go_sem] zlZ
theorem zo8(x y u v lo:Int)(hx:-128≤x∧x≤127)(hy:-128≤y∧y≤127)(hu:-128≤u∧u≤127)(hv:-128≤v∧v≤127)(hl:-128≤lo∧lo≤127)(w:World)(hE:Env w)
  (HAw:Hid (∀ w',Q w w'→Calls Tryz.prog 7 #[] w' fun e w''=>e=.returned (.bool true)∧Q w' w'')) :
  CR 3 #[.int .i8 x,.int .i8 y,.int .i8 u,.int .i8 v,.int .i8 lo] w (.bool true):=by
 obtain⟨W0,hW0⟩:∃ W0,(w.alloc (.cells #[.func (.func 4) #[] #[]] 27)).alloc (.cells #[.func (.func 6) #[] #[.pointer (some ⟨w.heap.size,0,none⟩)]] 30)=W0:=⟨_,rfl⟩
 have hmf:∀ (fn:Fn) (first cap:Array Value) (w:World),(Instr.makeFunc fn first cap).run Tryz.prog w=.ok (.func fn first cap) w:=fun _ _ _ _=>rfl
 have hq0:Q w W0:=by rw[← hW0];exact bt
 have BC:Blk W0 w.heap.size [.func (.func 4) #[] #[]] 27:=by rw[← hW0];exact(Blk.new w _ _).alloc _
 have BG:Blk W0 (w.heap.size+1) [.func (.func 6) #[] #[.pointer (some ⟨w.heap.size,0,none⟩)]] 30:=by rw[← hW0];exact Blk.new1 w _ _ _
 have hE0:=hE.ofQ hq0
 have HO:=fun a b ha hb=>LH (fun W hq=>zo7 a b ha hb w.heap.size (w.heap.size+1) 27 30 W (BC.keep hq BC.lt) (BG.keep hq BG.lt))
 have HN:∀ a b:Int,Hid (((a == 0) && (b == 0))=false→a≠0∨b≠0):=fun a b=>LH (fun h=>by
  simp only[Bool.and_eq_false_iff,beq_eq_false_iff_ne]at h
  exact h)
 have HN1:=HN x y
 have HN2:=HN u v
 clear HN
 obtain⟨k,hk,hk1,hk4⟩:∃ k,1+bits .and .i64 lo 3=k∧1≤k∧k≤4:=by
  have h:=zq5 ⟨(lo+128).toNat,by omega⟩
  rw[show (((lo+128).toNat:Nat):Int) - 128=lo by omega]at h
  exact⟨_,rfl,by omega,by omega⟩
 obtain⟨p,hp,bp⟩:∃ p,-y*k=p∧-512≤p∧p≤512:=⟨_,rfl,by
  rcases(show k=1∨k=2∨k=3∨k=4 by omega)with e | e | e | e <;> rw[e] <;> omega⟩
 obtain⟨q,hq,bq⟩:∃ q,x*k=q∧-512≤q∧q≤512:=⟨_,rfl,by
  rcases(show k=1∨k=2∨k=3∨k=4 by omega)with e | e | e | e <;> rw[e] <;> omega⟩
 obtain⟨s,hs,bs⟩:∃ s,x*v=s∧-262144≤s∧s≤262144:=⟨_,rfl,zdD (by omega) (by omega)⟩
 obtain⟨t,ht,bt'⟩:∃ t,y*u=t∧-262144≤t∧t≤262144:=⟨_,rfl,zdD (by omega) (by omega)⟩
 have HPQ:Hid ((x≠0∨y≠0)→(p≠0∨q≠0)∧zmK x y p q=0∧zhi (iV x y 0) (iV p q 0)=[((1:Rat),1)]):=LH (fun h=>by
  have hr:=zpp h hk1
  rw[hp,hq]at hr
  refine⟨?_,by unfold zmK;rw[if_neg hr],zpc (fun e=>hr ((zfY x y p q).1 e)) (by rw[← hp,← hq];grind)⟩
  by_cases e1:p=0
  ·by_cases e2:q=0
   ·rw[e1,e2]at hr
    exact absurd (by rw[Int.mul_zero,Int.mul_zero]) hr
   ·exact .inr e2
  ·exact .inl e1)
 have H1:=HO x y (by omega) (by omega)
 have H2:=HO p q (by omega) (by omega)
 have H3:=HO u v (by omega) (by omega)
 have H4:=HO (-u) (-v) (by omega) (by omega)
 have M1:=LH (fun h1 h2 W hW=>znl x y p q (by omega) (by omega) bp bq h1 h2 W hW)
 have M2:=LH (fun h1 h2 W hW=>znl x y u v (by omega) (by omega) (by omega) (by omega) h1 h2 W hW)
 have M3:=LH (fun h1 h2 W hW=>zry u v x y (by omega) (by omega) (by omega) (by omega) h1 h2 W hW)
 have M4:=LH (fun h1 h2 W hW=>znl x y (-u) (-v) (by omega) (by omega) (by omega) (by omega) h1 h2 W hW)
 have E2:Hid (zmK x y u v=if s=t then(if x=u∧y=v then 9 else 12)else 0):=LH (by unfold zmK;rw[hs,ht])
 have E4:Hid (zmK x y (-u) (-v)=if s=t then(if x = -u∧y = -v then 9 else 12)else 0):=LH (by
  unfold zmK
  rw[Int.mul_neg,Int.mul_neg,hs,ht]
  simp only[Int.neg_inj])
 have FL:Hid (¬ s=t→(FA (zhi (iV x y 0) (iV u v 0))∧∀ c'∈zhi (iV x y 0) (iV u v 0),zbp c'=true)∧(FA (zhi (iV x y 0) (iV (-u) (-v) 0))∧∀ c'∈zhi (iV x y 0) (iV (-u) (-v) 0),zbp c'=true)∧(∀ cs,zd2 (zfP (zhi (iV x y 0) (iV u v 0)) (zhi (iV x y 0) (iV (-u) (-v) 0)))=some cs→cs.length≤2)∧∀ C,zaU (zfP (zhi (iV x y 0) (iV u v 0)) (zhi (iV x y 0) (iV (-u) (-v) 0)))=some C→zf8 C=[((1:Rat),1)]):=LH (fun h=>by
  have h1:coR (iV x y 0) (iV u v 0)≠0:=fun e=>h (by rw[← hs,← ht];exact(zfY x y u v).1 e)
  have h2:coR (iV x y 0) (iV (-u) (-v) 0)≠0:=fun e=>h (by
   have:=(zfY x y (-u) (-v)).1 e
   rw[Int.mul_neg,Int.mul_neg,hs,ht]at this
   omega)
  exact⟨zqn (by omega) (by omega) (by omega) (by omega) h1,zqn (by omega) (by omega) (by omega) (by omega) h2,zrz h1⟩)
 generalize zhi (iV x y 0) (iV u v 0)=L2 at *
 generalize zhi (iV x y 0) (iV (-u) (-v) 0)=L4 at *
 generalize zhi (iV x y 0) (iV p q 0)=L1 at *
 generalize zmK x y u v=e2 at *
 generalize zmK x y (-u) (-v)=e4 at *
 generalize zmK x y p q=e1 at *
 have h5:zh (5:Rat)=[53]:=by kernel_rfl
 unfold VN iV at H1 H2 H3 H4 M1 M2 M3 M4
 simp only[h5]at H1 H2 H3 H4 M1 M2 M3 M4
 clear h5 HO BC BG hE
 generalize zh ((0:Int):Rat)=O at *
 generalize zh ((x:Int):Rat)=SX at *
 generalize zh ((y:Int):Rat)=SY at *
 generalize zh ((p:Int):Rat)=SP at *
 generalize zh ((q:Int):Rat)=SQ at *
 generalize zh ((u:Int):Rat)=SU at *
 generalize zh ((v:Int):Rat)=SV at *
 generalize zh ((-u:Int):Rat)=SU' at *
 generalize zh ((-v:Int):Rat)=SV' at *
 obtain⟨bx,hbx⟩:∃ b,(x == 0)=b:=⟨_,rfl⟩
 obtain⟨by',hby⟩:∃ b,(y == 0)=b:=⟨_,rfl⟩
 obtain⟨bu,hbu⟩:∃ b,(u == 0)=b:=⟨_,rfl⟩
 obtain⟨bv,hbv⟩:∃ b,(v == 0)=b:=⟨_,rfl⟩
 rw[hbx,hby]at HN1
 rw[hbu,hbv]at HN2
 go_enter Tryz.func3,Tryz.ntmps3
 go_wp2_with fail
 all_goals try (refine(HAw.out _ hq0).mono ?_;rintro e w1 ⟨rfl,hq1⟩;have hQ:=Q.trans hq0 hq1;go_wp2;go_ret;exact⟨rfl,hQ⟩)
 all_goals
  have n1:=HN1.out (by simp_all)
  have n2:=HN2.out (by simp_all)
  obtain⟨n3,ee1,el1⟩:=HPQ.out n1
  have m1:=LH (M1.out n1 n3)
  have m2:=LH (M2.out n1 n2)
  have m3:=LH (M3.out n2 n1)
  have m4:=LH (M4.out n1 (by omega))
  rw[ee1,el1]at m1
  clear HN1 HN2 HPQ M1 M2 M3 M4 n1 n2 n3 ee1 el1
  clear hW0
  refine cx (H1.out _ (Q.refl W0)) fun w1 hq1=>?_
  go_wp2_with fail
  refine cx (H2.out _ hq1) fun w2 hq2=>?_
  clear H1 H2
  obtain⟨W3,hW3⟩:∃ W3,(w2.alloc (.cells #[.int .i64 9,.int .i64 0,.int .i64 (-1),.string ⟨O.toArray⟩,.string ⟨O.toArray⟩,.string ⟨#[53]⟩,.string ⟨SX.toArray⟩,.string ⟨SY.toArray⟩,.string ⟨#[53]⟩,.int .i64 50,.int .i64 100] 33)).alloc (.cells #[.int .i64 9,.int .i64 0,.int .i64 (-1),.string ⟨O.toArray⟩,.string ⟨O.toArray⟩,.string ⟨#[53]⟩,.string ⟨SP.toArray⟩,.string ⟨SQ.toArray⟩,.string ⟨#[53]⟩,.int .i64 50,.int .i64 100] 33)=W3:=⟨_,rfl⟩
  have BM:Blk W3 w2.heap.size [.int .i64 9,.int .i64 0,.int .i64 (-1),.string ⟨O.toArray⟩,.string ⟨O.toArray⟩,.string ⟨#[53]⟩,.string ⟨SX.toArray⟩,.string ⟨SY.toArray⟩,.string ⟨#[53]⟩,.int .i64 50,.int .i64 100] 33:=by rw[← hW3];exact(Blk.new w2 _ _).alloc _
  have BN:Blk W3 (w2.heap.size+1) [.int .i64 9,.int .i64 0,.int .i64 (-1),.string ⟨O.toArray⟩,.string ⟨O.toArray⟩,.string ⟨#[53]⟩,.string ⟨SP.toArray⟩,.string ⟨SQ.toArray⟩,.string ⟨#[53]⟩,.int .i64 50,.int .i64 100] 33:=by rw[← hW3];exact Blk.new1 w2 _ _ _
  have hq23:Q w2 W3:=by rw[← hW3];exact bt
  have hQ:Q W0 W3:=Q.trans hq1 (Q.trans hq2 hq23)
  clear hq1 hq2 hq23
  have hQ0:=Q.refl W3
  replace mm0:=BM.cell 0
  replace mm1:=BM.cell 1
  replace mm2:=BM.cell 2
  replace mm3:=BM.cell 3
  replace mm4:=BM.cell 4
  replace mm5:=BM.cell 5
  replace mm6:=BM.cell 6
  replace mm7:=BM.cell 7
  replace mm8:=BM.cell 8
  replace mm9:=BM.cell 9
  replace mm10:=BM.cell 10
  simp only[zs4,zs5]at mm0 mm1 mm2 mm3 mm4 mm5 mm6 mm7 mm8 mm9 mm10
  replace lBM:=BM.lt
  replace nn0:=BN.cell
  replace lBN:=BN.lt
  go_wp2_with fail
  clear hW3
  refine(m1.out _ (hE0.ofQ hQ)).mono ?_
  rintro e G1⟨v1,rfl,hg1,hs1⟩
  have hl1:=hs1 rfl
  have hqa:Q G1 (G1.alloc (.cells #[.string ⟨#[49]⟩,.string ⟨#[49]⟩] 42)):=bt
  have hEQ:=LH (zhv zst zlV _ _ v1 _ _ (hE0.ofQ (Q.trans hQ (Q.trans hg1 hqa))) (hl1.keep hqa) (zM.lit G1))
  clear BN lBN nn0
  clear hs1 hl1 m1
  go_wp2_with fail
  refine hEQ.out.mono ?_
  rintro e G2⟨rfl,hg2⟩
  have hg3:Q W3 G2:=Q.trans hg1 (Q.trans hqa hg2)
  replace BM:=BM.keep hg3 BM.lt
  clear hg1 hg2 hqa hEQ mm0 mm1 mm2 mm3 mm4 mm5 mm6 mm7 mm8 mm9 mm10 lBM
  go_wp2_with fail
  refine cx (H3.out _ (Q.trans hQ hg3)) fun V1 hv1=>?_
  go_wp2_with fail
  refine cx (H4.out _ (Q.trans hQ (Q.trans hg3 hv1))) fun V2 hv2=>?_
  clear H3 H4
  obtain⟨W4,hW4⟩:∃ W4,(V2.alloc (.cells #[.int .i64 9,.int .i64 0,.int .i64 (-1),.string ⟨O.toArray⟩,.string ⟨O.toArray⟩,.string ⟨#[53]⟩,.string ⟨SU.toArray⟩,.string ⟨SV.toArray⟩,.string ⟨#[53]⟩,.int .i64 50,.int .i64 100] 33)).alloc (.cells #[.int .i64 9,.int .i64 0,.int .i64 (-1),.string ⟨O.toArray⟩,.string ⟨O.toArray⟩,.string ⟨#[53]⟩,.string ⟨SU'.toArray⟩,.string ⟨SV'.toArray⟩,.string ⟨#[53]⟩,.int .i64 50,.int .i64 100] 33)=W4:=⟨_,rfl⟩
  have BO:Blk W4 V2.heap.size [.int .i64 9,.int .i64 0,.int .i64 (-1),.string ⟨O.toArray⟩,.string ⟨O.toArray⟩,.string ⟨#[53]⟩,.string ⟨SU.toArray⟩,.string ⟨SV.toArray⟩,.string ⟨#[53]⟩,.int .i64 50,.int .i64 100] 33:=by rw[← hW4];exact(Blk.new V2 _ _).alloc _
  have BB:Blk W4 (V2.heap.size+1) [.int .i64 9,.int .i64 0,.int .i64 (-1),.string ⟨O.toArray⟩,.string ⟨O.toArray⟩,.string ⟨#[53]⟩,.string ⟨SU'.toArray⟩,.string ⟨SV'.toArray⟩,.string ⟨#[53]⟩,.int .i64 50,.int .i64 100] 33:=by rw[← hW4];exact Blk.new1 V2 _ _ _
  have hq4:Q G2 W4:=Q.trans hv1 (Q.trans hv2 (by rw[← hW4];exact bt))
  replace BM:=BM.keep hq4 BM.lt
  have hQ4:Q W0 W4:=Q.trans hQ (Q.trans hg3 hq4)
  clear hv1 hv2 hq4 hg3 hQ
  have hQ:=hQ4
  clear hQ4
  have hQ0:=Q.refl W4
  replace mm0:=BM.cell 0
  replace mm1:=BM.cell 1
  replace mm2:=BM.cell 2
  replace mm3:=BM.cell 3
  replace mm4:=BM.cell 4
  replace mm5:=BM.cell 5
  replace mm6:=BM.cell 6
  replace mm7:=BM.cell 7
  replace mm8:=BM.cell 8
  replace mm9:=BM.cell 9
  replace mm10:=BM.cell 10
  simp only[zs4,zs5]at mm0 mm1 mm2 mm3 mm4 mm5 mm6 mm7 mm8 mm9 mm10
  replace lBM:=BM.lt
  replace oo0:=BO.cell 0
  replace oo1:=BO.cell 1
  replace oo2:=BO.cell 2
  replace oo3:=BO.cell 3
  replace oo4:=BO.cell 4
  replace oo5:=BO.cell 5
  replace oo6:=BO.cell 6
  replace oo7:=BO.cell 7
  replace oo8:=BO.cell 8
  replace oo9:=BO.cell 9
  replace oo10:=BO.cell 10
  simp only[zs4,zs5]at oo0 oo1 oo2 oo3 oo4 oo5 oo6 oo7 oo8 oo9 oo10
  replace lBO:=BO.lt
  replace bb0:=BB.cell
  replace lBB:=BB.lt
  go_wp2_with fail
  clear hW4
  refine(m2.out _ (hE0.ofQ hQ)).mono ?_
  rintro e G1⟨v2,rfl,hg1,hl2⟩
  clear m2
  replace BM:=BM.keep hg1 BM.lt
  replace BO:=BO.keep hg1 BO.lt
  replace BB:=BB.keep hg1 BB.lt
  clear mm0 mm1 mm2 mm3 mm4 mm5 mm6 mm7 mm8 mm9 mm10 lBM oo0 oo1 oo2 oo3 oo4 oo5 oo6 oo7 oo8 oo9 oo10 lBO bb0 lBB
  have hQ0:=Q.refl G1
  replace mm0:=BM.cell 0
  replace mm1:=BM.cell 1
  replace mm2:=BM.cell 2
  replace mm3:=BM.cell 3
  replace mm4:=BM.cell 4
  replace mm5:=BM.cell 5
  replace mm6:=BM.cell 6
  replace mm7:=BM.cell 7
  replace mm8:=BM.cell 8
  replace mm9:=BM.cell 9
  replace mm10:=BM.cell 10
  simp only[zs4,zs5]at mm0 mm1 mm2 mm3 mm4 mm5 mm6 mm7 mm8 mm9 mm10
  replace lBM:=BM.lt
  replace oo0:=BO.cell 0
  replace oo1:=BO.cell 1
  replace oo2:=BO.cell 2
  replace oo3:=BO.cell 3
  replace oo4:=BO.cell 4
  replace oo5:=BO.cell 5
  replace oo6:=BO.cell 6
  replace oo7:=BO.cell 7
  replace oo8:=BO.cell 8
  replace oo9:=BO.cell 9
  replace oo10:=BO.cell 10
  simp only[zs4,zs5]at oo0 oo1 oo2 oo3 oo4 oo5 oo6 oo7 oo8 oo9 oo10
  replace lBO:=BO.lt
  replace bb0:=BB.cell
  replace lBB:=BB.lt
  have hQ5:Q W0 G1.drew:=Q.trans hQ (Q.trans hg1 (Below.drew (Q.refl G1)))
  have hEd:Env G1.drew:=hE0.ofQ hQ5
  have HT:=LH (fun w=>zmx 9 0 (-1) 50 100 O O [53] SU SV [53] w)
  go_wp2_with fail
  refine zm 9 rfl (by kernel_rfl) rfl ?_
  refine svq 0 rfl (by intro w' hq;have hc0:=za hq oo0;have hc1:=za hq oo1;have hc2:=za hq oo2;have hc3:=za hq oo3;have hc4:=za hq oo4;have hc5:=za hq oo5;have hc6:=za hq oo6;have hc7:=za hq oo7;have hc8:=za hq oo8;have hc9:=za hq oo9;have hc10:=za hq oo10;go_simp;try with_reducible rfl) ?_
  refine ze (i:=1) (v:=_) rfl rfl (by kernel_rfl) (by kernel_rfl) (fun _ _ _ h=>h) (by rfl) ?_ (fun w' hq=>HT.out w') ?_
  ·(intro w' hq;go_simp;try with_reducible rfl)
  simp only[Act.put,zs1,zs2,zs3]
  refine svq 2 rfl (by intro w' hq;have hc0:=za hq mm0;have hc1:=za hq mm1;have hc2:=za hq mm2;have hc3:=za hq mm3;have hc4:=za hq mm4;have hc5:=za hq mm5;have hc6:=za hq mm6;have hc7:=za hq mm7;have hc8:=za hq mm8;have hc9:=za hq mm9;have hc10:=za hq mm10;go_simp;try with_reducible rfl) ?_
  refine zP (i:=3) rfl rfl (by kernel_rfl) (by rfl) (fun w' hq=>by go_simp;try with_reducible rfl) (fun w6 hq6=>(m3.out w6 (hEd.ofQ hq6)).mono ?_)
  rintro e w7⟨v3,rfl,hq7,hl3⟩
  refine⟨_,rfl,hq7,?_⟩
  simp only[Act.put,zs1,zs2,zs3]
  refine svp 4 ?_
  refine svp 5 ?_
  refine svp 6 ?_
  refine svp 7 ?_
  refine svp 8 ?_
  refine zi (by kernel_rfl) (fun w9 hq9=>?_)
  simp only[List.drop_succ_cons,List.drop_nil]
  have hgq:Q G1 w9:=Q.trans (Below.drew (Q.refl G1)) (Q.trans hq6 (Q.trans hq7 hq9))
  have hQ6:Q W0 w9:=Q.trans hQ5 (Q.trans hq6 (Q.trans hq7 hq9))
  have hl3':=fun h=>zM.keep (hl3 h) hq9
  have hl2':=fun h=>zM.keep (hl2 h) hgq
  replace BM:=BM.keep hgq BM.lt
  replace BB:=BB.keep hgq BB.lt
  clear m3 HT hl3 hl2 hq6 hq7 hq9 hgq hEd hQ5 hQ hg1 BO mm0 mm1 mm2 mm3 mm4 mm5 mm6 mm7 mm8 mm9 mm10 lBM oo0 oo1 oo2 oo3 oo4 oo5 oo6 oo7 oo8 oo9 oo10 lBO bb0 lBB
  have hQ0:=Q.refl w9
  replace mm0:=BM.cell 0
  replace mm1:=BM.cell 1
  replace mm2:=BM.cell 2
  replace mm3:=BM.cell 3
  replace mm4:=BM.cell 4
  replace mm5:=BM.cell 5
  replace mm6:=BM.cell 6
  replace mm7:=BM.cell 7
  replace mm8:=BM.cell 8
  replace mm9:=BM.cell 9
  replace mm10:=BM.cell 10
  simp only[zs4,zs5]at mm0 mm1 mm2 mm3 mm4 mm5 mm6 mm7 mm8 mm9 mm10
  replace lBM:=BM.lt
  replace bb0:=BB.cell
  replace lBB:=BB.lt
  go_wp2_with fail
  refine(m4.out w9 (hE0.ofQ hQ6)).mono ?_
  rintro e V3⟨v4,rfl,hv3,hl4⟩
  have hQ:Q W0 V3:=Q.trans hQ6 hv3
  have hl3:=fun h=>zM.keep (hl3' h) hv3
  have hl2:=fun h=>zM.keep (hl2' h) hv3
  have hEv:=hE0.ofQ hQ
  clear m4 hl3' hl2' hv3 hQ6 BM BB mm0 mm1 mm2 mm3 mm4 mm5 mm6 mm7 mm8 mm9 mm10 lBM bb0 lBB
  by_cases hst:s=t
  ·have ha:=LH (HAw.out V3 (Q.trans hq0 hQ))
   have e2':=E2.out
   have e4':=E4.out
   rw[if_pos hst]at e2' e4'
   clear hl2 hl3 hl4 FL E2 E4 HAw
   have k2:e2=9∨e2=12:=by
    split at e2'
    ·exact .inl e2'
    ·exact .inr e2'
   have k4:e4=9∨e4=12:=by
    split at e4'
    ·exact .inl e4'
    ·exact .inr e4'
   clear e2' e4'
   rcases k2 with rfl | rfl <;> rcases k4 with rfl | rfl <;>
   ·go_wp2_with fail
    refine ha.out.mono ?_
    rintro e V4⟨rfl,hv4⟩
    have hQe:=Q.trans hq0 (Q.trans hQ hv4)
    go_wp2
    go_ret
    exact⟨rfl,hQe⟩
  ·have e2':=E2.out
   have e4':=E4.out
   rw[if_neg hst]at e2' e4'
   subst e2' e4'
   obtain⟨⟨f2,s2⟩,⟨f4,s4⟩,hvm,hmk⟩:=FL.out hst
   have len2:=f2.up.2.2
   have len4:=f4.up.2.2
   have hlen:L2.length*L4.length≤16:=Nat.le_trans (Nat.mul_le_mul len2 len4) (by decide)
   have HM:=LH (zm1 L2 L4 (f2.slist s2) (f4.slist s4) hlen hvm _ _ v2 v4 V3 hEv (hl2 rfl) (hl4 rfl))
   have hl2':=hl2 rfl
   have hl3':=hl3 rfl
   clear hl2 hl3 hl4 FL E2 E4 f4 s4 hvm len2 len4 hlen
   go_wp2_with fail
   refine HM.out.mono ?_
   rintro e V4⟨hv4,hno,hso⟩
   have hEQ:=LH (zhv f2 s2 _ _ v2 v3 V4 (hEv.ofQ hv4) (hl2'.keep hv4) (hl3'.keep hv4))
   have hm2:∀ z:Int,(z=4∨z=0)→True:=fun _ _=>trivial
   clear hm2 hl2' hl3' HM
   cases hmm:zaU (zfP L2 L4)with
   | none =>
    obtain rfl:=hno hmm
    clear hso hno hmk hmm
    go_wp2_with fail
    refine hEQ.out.mono ?_
    rintro e V5⟨rfl,hv5⟩
    go_wp2_with fail
    have hQa:=Q.trans hQ (Q.trans hv4 hv5)
    refine cx (HAw.out V5 (Q.trans hq0 hQa)) fun V6 hv6=>?_
    have hQe:=Q.trans hq0 (Q.trans hQa hv6)
    go_wp2
    go_ret
    exact⟨rfl,hQe⟩
   | some C =>
    obtain⟨v5,rfl,hl5⟩:=hso C hmm
    rw[hmk C hmm]at hl5
    clear hso hno hmk hmm
    go_wp2_with fail
    refine hEQ.out.mono ?_
    rintro e V5⟨rfl,hv5⟩
    have hqa:Q V5 (V5.alloc (.cells #[.string ⟨#[49]⟩,.string ⟨#[49]⟩] 42)):=bt
    have hQa:Q W0 (V5.alloc (.cells #[.string ⟨#[49]⟩,.string ⟨#[49]⟩] 42)):=Q.trans hQ (Q.trans hv4 (Q.trans hv5 hqa))
    have hEQ2:=LH (zhv zst zlV _ _ v5 _ _ (hE0.ofQ hQa) (hl5.keep (Q.trans hv5 hqa)) (zM.lit V5))
    clear hl5 hEQ
    go_wp2_with fail
    refine hEQ2.out.mono ?_
    rintro e V6⟨rfl,hv6⟩
    go_wp2_with fail
    have hQb:=Q.trans hQa hv6
    refine cx (HAw.out V6 (Q.trans hq0 hQb)) fun V7 hv7=>?_
    have hQe:=Q.trans hq0 (Q.trans hQb hv7)
    go_wp2
    go_ret
    exact⟨rfl,hQe⟩
end
section
open Go.RowKit Go.Shelf Kp
attribute [local go_sem] Oper.semAt_some
theorem zoe(s n:Sd):zgN s n<4:=by
 unfold zgN
 split
 ·omega
 ·split
  ·omega
  ·split <;> omega
theorem Env.dirAt{w:World}(h:Env w){k:Nat}(hk:k<4):w.cell? ⟨3,k*2,none⟩=some (.bool (upF k))∧w.cell? ⟨3,k*2+1,none⟩=some (.int .i64 (ztc k)):=by
 obtain⟨t,f,hd⟩:=h.dirs
 have hc:∀ i,w.cell? ⟨3,i,none⟩=zrZ[i]?:=fun i=>by simp[World.cell?,hd]
 rw[hc,hc]
 match k,hk with
 | 0,_=>exact⟨rfl,rfl⟩
 | 1,_=>exact⟨rfl,rfl⟩
 | 2,_=>exact⟨rfl,rfl⟩
 | 3,_=>exact⟨rfl,rfl⟩
theorem zcU{W:World}{b:Nat}{x y z u v:Value}(h:Blk W b [x,y,z,u,v] 155)(fn:Func)(m:Nat)(hf:fn.results=#[.cell m 155])(tmps:Array Value)(hp:tmps.getD m undef=.pointer (some ⟨b,0,none⟩)) :
  (results fn tmps).run Tryz.prog W=.ok (.agg #[x,y,z,u,v]) W:=by
 exact results_cell_row hf tmps W b _ #[x,y,z,u,v] (0,0) _ hp h Tryz.underlying155 rfl (by kernel_rfl)
theorem zrJ(s n:Sd)(hs:Rgd s)(w:World)(hE:Env w) :
  CR 149 #[.agg (sdC s).toArray,.agg (sdC n).toArray] w (.agg (frC (zjv s n)).toArray):=by
 have HH:=LH (fun w (_:Env w)=>zls s n w)
 have HP:=LH (fun w hw=>zbi s.plate 1 (by decide) (by have:=hs.p0;have:=hs.p1;omega) (by decide) w hw)
 rw[zhw]at HP
 have HD:Hid (∀ W,Env W→W.cell? ⟨3,zgN s n*2,none⟩=some (.bool (upF (zgN s n)))∧W.cell? ⟨3,zgN s n*2+1,none⟩=some (.int .i64 (ztc (zgN s n)))):=LH (fun W hW=>hW.dirAt (zoe s n))
 have hk4:=zoe s n
 obtain⟨SP,hSP⟩:∃ SP,zh (if s.gable then(0:Rat)else Rat.divInt s.run s.rise)=SP:=⟨_,rfl⟩
 have H1:Hid (s.gable=true→SP=[48]):=LH (fun hg=>by rw[← hSP,if_pos hg];exact zaN)
 have HN:Hid (s.gable=false→∃ k:Nat,s.rise=k∧∀ W,Env W→CR 217 #[.int .i64 s.run,.int .i64 (k:Nat)] W (.tuple #[.string ⟨SP.toArray⟩,.int .i64 0])):=LH (fun hg=>by
  rw[← hSP,hg]
  have h1:=hs.n hg
  obtain⟨k,hk⟩:=Int.eq_ofNat_of_zero_le (show 0≤s.rise by omega)
  refine⟨k,hk,fun W hW=>?_⟩
  rw[hk]
  exact zbi s.run k (by omega) (by omega) (by omega) W hW)
 unfold zjv frC
 simp only[hSP]
 clear hSP
 generalize zgN s n=hd at *
 generalize upF hd=up at *
 generalize ztc hd=dr at *
 obtain⟨x1,y1,r1,n1,g1,p1,o1⟩:=s
 obtain⟨x2,y2,r2,n2,g2,p2,o2⟩:=n
 simp only at HN H1 HP ⊢
 clear hs
 generalize zh (p1:Rat)=PL at *
 obtain⟨co,hco⟩:∃ co,(if up=true then x1 else y1)=co:=⟨_,rfl⟩
 rw[hco]
 have hdz:(hd:Int)<4:=by omega
 have hd0:(0:Int)≤hd:=by omega
 have BS:=((Blk.new w [.int .i64 x1,.int .i64 y1,.int .i64 r1,.int .i64 n1,.bool g1,.int .i64 p1,.int .i64 o1] 90).alloc (.cells #[.int .i64 x2,.int .i64 y2,.int .i64 r2,.int .i64 n2,.bool g2,.int .i64 p2,.int .i64 o2] 90)).alloc (.cells #[.bool false,.int .i64 0,.int .i64 0,.string ⟨#[]⟩,.string ⟨#[]⟩] 155)
 have BZ:=Blk.new ((w.alloc (.cells #[.int .i64 x1,.int .i64 y1,.int .i64 r1,.int .i64 n1,.bool g1,.int .i64 p1,.int .i64 o1] 90)).alloc (.cells #[.int .i64 x2,.int .i64 y2,.int .i64 r2,.int .i64 n2,.bool g2,.int .i64 p2,.int .i64 o2] 90)) [.bool false,.int .i64 0,.int .i64 0,.string ⟨#[]⟩,.string ⟨#[]⟩] 155
 rw[World.size_alloc,World.size_alloc]at BZ
 unfold sdC at *
 simp only
 have BN:=(Blk.new (w.alloc (.cells #[.int .i64 x1,.int .i64 y1,.int .i64 r1,.int .i64 n1,.bool g1,.int .i64 p1,.int .i64 o1] 90)) [.int .i64 x2,.int .i64 y2,.int .i64 r2,.int .i64 n2,.bool g2,.int .i64 p2,.int .i64 o2] 90).alloc (.cells #[.bool false,.int .i64 0,.int .i64 0,.string ⟨#[]⟩,.string ⟨#[]⟩] 155)
 rw[World.size_alloc]at BN
 obtain⟨W0,hW0⟩:∃ W0,((w.alloc (.cells #[.int .i64 x1,.int .i64 y1,.int .i64 r1,.int .i64 n1,.bool g1,.int .i64 p1,.int .i64 o1] 90)).alloc (.cells #[.int .i64 x2,.int .i64 y2,.int .i64 r2,.int .i64 n2,.bool g2,.int .i64 p2,.int .i64 o2] 90)).alloc (.cells #[.bool false,.int .i64 0,.int .i64 0,.string ⟨#[]⟩,.string ⟨#[]⟩] 155)=W0:=⟨_,rfl⟩
 have hq0:Q w W0:=by rw[← hW0];exact bt
 have hEw:=hE.ofQ hq0
 have hs0:W0.heap.size=w.heap.size+3:=by rw[← hW0];simp
 rw[hW0]at BS BN BZ
 clear hE
 have hE:=hEw
 clear hEw
 have hQ0:=Q.refl W0
 replace s0:=BS.cell
 replace lBS:=BS.lt
 replace t0:=BN.cell
 replace lBN:=BN.lt
 replace z0:=BZ.cell
 replace lBZ:=BZ.lt
 go_enter Tryz.func149,Tryz.ntmps149
 go_wp2_with fail
 clear hW0
 refine cx (HH.out _ (hE.ofQ bt)) fun Y1 hq1=>?_
 have hs1:Q W0 Y1:=Q.trans bt hq1
 have hQ1:Q W0 Y1:=Q.trans hQ0 hs1
 replace BS:=BS.keep hs1 BS.lt
 replace s0:=BS.cell
 replace lBS:=BS.lt
 replace BN:=BN.keep hs1 BN.lt
 replace t0:=BN.cell
 replace lBN:=BN.lt
 replace BZ:=BZ.keep hs1 BZ.lt
 replace z0:=BZ.cell
 replace lBZ:=BZ.lt
 obtain⟨d0,d1⟩:=HD.out _ (hE.ofQ hQ1)
 clear BN lBN t0
 have lY:=hQ1.size
 cases up <;> cases g1
 case false.false =>
  obtain rfl:y1=co:=hco
  have F:=Blk.new (Y1.alloc (.cells #[.bool false,.int .i64 dr] 292)) [.bool false,.int .i64 y1,.int .i64 dr,.string ⟨#[48]⟩,.string ⟨#[]⟩] 155
  rw[World.size_alloc]at F
  obtain⟨k,rfl,hN⟩:=HN.out rfl
  have HO:=LH hN
  clear hN
  clear HN HD HH H1
  have F1:=F
  clear F
  have BS1:=BS
  have BZ1:=BZ
  go_wp2_with fail
  refine cx (HO.out _ (hE.ofQ bt)) fun Y2 hq2=>?_
  have hs2:Q Y1 Y2:=Q.trans bt hq2
  replace BS:=BS.keep hs2 BS.lt
  replace BZ:=BZ.keep hs2 BZ.lt
  replace s0:=BS.cell
  replace z0:=BZ.cell
  replace F1:=F1.keep hq2 F1.lt
  have f0:=F1.cell
  have g3:=F1.frozen 3
  have F2:=F1.set 3 (.string ⟨SP.toArray⟩)
  simp only[List.set_cons_zero,List.set_cons_succ]at F2
  clear HO
  clear F1
  go_wp2_with fail
  clear f0 g3
  have hB2:Below Y1.heap.size Y1 (Y2.setCell ⟨Y1.heap.size+1,3,none⟩ (.string ⟨SP.toArray⟩)):=hs2.setCell (p:=⟨Y1.heap.size+1,3,none⟩) (by simp) _
  have hQ2s:Q W0 (Y2.setCell ⟨Y1.heap.size+1,3,none⟩ (.string ⟨SP.toArray⟩)):=Below.trans hQ1 (hB2.mono lY)
  refine cx (HP.out _ (hE.ofQ hQ2s)) fun Y3 hq3=>?_
  have hB3:Below Y1.heap.size Y1 Y3:=Below.trans hB2 (hq3.mono hB2.size)
  have hQ3:Q W0 Y3:=Below.trans hQ1 (hB3.mono lY)
  replace BS:=BS1.keep hB3 BS1.lt
  replace BZ:=BZ1.keep hB3 BZ1.lt
  replace s0:=BS.cell
  replace z0:=BZ.cell
  clear BS1 BZ1 hB2 hQ2s
  replace F2:=F2.keep hq3 F2.lt
  have f0:=F2.cell
  have g4:=F2.frozen 4
  have k0:=BZ.frozen 0
  have k1:=BZ.frozen 1
  have k2:=BZ.frozen 2
  have k3:=BZ.frozen 3
  have k4:=BZ.frozen 4
  have hne:Y1.heap.size+1≠w.heap.size+1+1:=by omega
  have hne2:w.heap.size+1+1≠Y1.heap.size+1:=by omega
  have hy:w.heap.size≤Y1.heap.size+1:=by omega
  have hy2:w.heap.size≤w.heap.size+1+1:=by omega
  generalize Y1.heap.size+1=bf at *
  generalize w.heap.size+1+1=bz at *
  have Z:=((((((BZ.setOther hne 4 (.string ⟨PL.toArray⟩)).set 0 (.bool false)).set 1 (.int .i64 y1)).set 2 (.int .i64 dr)).set 3 (.string ⟨SP.toArray⟩)).set 4 (.string ⟨PL.toArray⟩))
  simp only[List.set_cons_zero,List.set_cons_succ]at Z
  have hQe:=((((((Q.trans hq0 hQ3).setCell (p:=⟨bf,4,none⟩) hy (.string ⟨PL.toArray⟩)).setCell (p:=⟨bz,0,none⟩) hy2 (.bool false)).setCell (p:=⟨bz,1,none⟩) hy2 (.int .i64 y1)).setCell (p:=⟨bz,2,none⟩) hy2 (.int .i64 dr)).setCell (p:=⟨bz,3,none⟩) hy2 (.string ⟨SP.toArray⟩)).setCell (p:=⟨bz,4,none⟩) hy2 (.string ⟨PL.toArray⟩)
  clear HP F2
  have HR:=zcU Z
  go_wp2_with (exact bodyPost_ret (HR Tryz.f149 4 rfl _ rfl) rfl ⟨rfl,hQe⟩)
 case false.true =>
  obtain rfl:y1=co:=hco
  have F:=Blk.new (Y1.alloc (.cells #[.bool false,.int .i64 dr] 292)) [.bool false,.int .i64 y1,.int .i64 dr,.string ⟨#[48]⟩,.string ⟨#[]⟩] 155
  rw[World.size_alloc]at F
  obtain rfl:=H1.out rfl
  clear HN HD HH H1
  have F1:=F
  clear F
  have F2:=F1
  clear F1
  go_wp2_with fail
  refine cx (HP.out _ (hE.ofQ bt)) fun Y3 hq3=>?_
  have hB3:Q Y1 Y3:=Q.trans bt hq3
  have hQ3:Q W0 Y3:=Q.trans hQ1 hB3
  replace BS:=BS.keep hB3 BS.lt
  replace BZ:=BZ.keep hB3 BZ.lt
  replace s0:=BS.cell
  replace z0:=BZ.cell
  replace F2:=F2.keep hq3 F2.lt
  have f0:=F2.cell
  have g4:=F2.frozen 4
  have k0:=BZ.frozen 0
  have k1:=BZ.frozen 1
  have k2:=BZ.frozen 2
  have k3:=BZ.frozen 3
  have k4:=BZ.frozen 4
  have hne:Y1.heap.size+1≠w.heap.size+1+1:=by omega
  have hne2:w.heap.size+1+1≠Y1.heap.size+1:=by omega
  have hy:w.heap.size≤Y1.heap.size+1:=by omega
  have hy2:w.heap.size≤w.heap.size+1+1:=by omega
  generalize Y1.heap.size+1=bf at *
  generalize w.heap.size+1+1=bz at *
  have Z:=((((((BZ.setOther hne 4 (.string ⟨PL.toArray⟩)).set 0 (.bool false)).set 1 (.int .i64 y1)).set 2 (.int .i64 dr)).set 3 (.string ⟨#[48]⟩)).set 4 (.string ⟨PL.toArray⟩))
  simp only[List.set_cons_zero,List.set_cons_succ]at Z
  have hQe:=((((((Q.trans hq0 hQ3).setCell (p:=⟨bf,4,none⟩) hy (.string ⟨PL.toArray⟩)).setCell (p:=⟨bz,0,none⟩) hy2 (.bool false)).setCell (p:=⟨bz,1,none⟩) hy2 (.int .i64 y1)).setCell (p:=⟨bz,2,none⟩) hy2 (.int .i64 dr)).setCell (p:=⟨bz,3,none⟩) hy2 (.string ⟨#[48]⟩)).setCell (p:=⟨bz,4,none⟩) hy2 (.string ⟨PL.toArray⟩)
  clear HP F2
  have HR:=zcU Z
  go_wp2_with (exact bodyPost_ret (HR Tryz.f149 4 rfl _ rfl) rfl ⟨rfl,hQe⟩)
 case true.false =>
  obtain rfl:x1=co:=hco
  have F:=Blk.new (Y1.alloc (.cells #[.bool true,.int .i64 dr] 292)) [.bool true,.int .i64 x1,.int .i64 dr,.string ⟨#[48]⟩,.string ⟨#[]⟩] 155
  rw[World.size_alloc]at F
  obtain⟨k,rfl,hN⟩:=HN.out rfl
  have HO:=LH hN
  clear hN
  clear HN HD HH H1
  have F1:=F
  clear F
  have BS1:=BS
  have BZ1:=BZ
  go_wp2_with fail
  refine cx (HO.out _ (hE.ofQ bt)) fun Y2 hq2=>?_
  have hs2:Q Y1 Y2:=Q.trans bt hq2
  replace BS:=BS.keep hs2 BS.lt
  replace BZ:=BZ.keep hs2 BZ.lt
  replace s0:=BS.cell
  replace z0:=BZ.cell
  replace F1:=F1.keep hq2 F1.lt
  have f0:=F1.cell
  have g3:=F1.frozen 3
  have F2:=F1.set 3 (.string ⟨SP.toArray⟩)
  simp only[List.set_cons_zero,List.set_cons_succ]at F2
  clear HO
  clear F1
  go_wp2_with fail
  clear f0 g3
  have hB2:Below Y1.heap.size Y1 (Y2.setCell ⟨Y1.heap.size+1,3,none⟩ (.string ⟨SP.toArray⟩)):=hs2.setCell (p:=⟨Y1.heap.size+1,3,none⟩) (by simp) _
  have hQ2s:Q W0 (Y2.setCell ⟨Y1.heap.size+1,3,none⟩ (.string ⟨SP.toArray⟩)):=Below.trans hQ1 (hB2.mono lY)
  refine cx (HP.out _ (hE.ofQ hQ2s)) fun Y3 hq3=>?_
  have hB3:Below Y1.heap.size Y1 Y3:=Below.trans hB2 (hq3.mono hB2.size)
  have hQ3:Q W0 Y3:=Below.trans hQ1 (hB3.mono lY)
  replace BS:=BS1.keep hB3 BS1.lt
  replace BZ:=BZ1.keep hB3 BZ1.lt
  replace s0:=BS.cell
  replace z0:=BZ.cell
  clear BS1 BZ1 hB2 hQ2s
  replace F2:=F2.keep hq3 F2.lt
  have f0:=F2.cell
  have g4:=F2.frozen 4
  have k0:=BZ.frozen 0
  have k1:=BZ.frozen 1
  have k2:=BZ.frozen 2
  have k3:=BZ.frozen 3
  have k4:=BZ.frozen 4
  have hne:Y1.heap.size+1≠w.heap.size+1+1:=by omega
  have hne2:w.heap.size+1+1≠Y1.heap.size+1:=by omega
  have hy:w.heap.size≤Y1.heap.size+1:=by omega
  have hy2:w.heap.size≤w.heap.size+1+1:=by omega
  generalize Y1.heap.size+1=bf at *
  generalize w.heap.size+1+1=bz at *
  have Z:=((((((BZ.setOther hne 4 (.string ⟨PL.toArray⟩)).set 0 (.bool true)).set 1 (.int .i64 x1)).set 2 (.int .i64 dr)).set 3 (.string ⟨SP.toArray⟩)).set 4 (.string ⟨PL.toArray⟩))
  simp only[List.set_cons_zero,List.set_cons_succ]at Z
  have hQe:=((((((Q.trans hq0 hQ3).setCell (p:=⟨bf,4,none⟩) hy (.string ⟨PL.toArray⟩)).setCell (p:=⟨bz,0,none⟩) hy2 (.bool true)).setCell (p:=⟨bz,1,none⟩) hy2 (.int .i64 x1)).setCell (p:=⟨bz,2,none⟩) hy2 (.int .i64 dr)).setCell (p:=⟨bz,3,none⟩) hy2 (.string ⟨SP.toArray⟩)).setCell (p:=⟨bz,4,none⟩) hy2 (.string ⟨PL.toArray⟩)
  clear HP F2
  have HR:=zcU Z
  go_wp2_with (exact bodyPost_ret (HR Tryz.f149 4 rfl _ rfl) rfl ⟨rfl,hQe⟩)
 case true.true =>
  obtain rfl:x1=co:=hco
  have F:=Blk.new (Y1.alloc (.cells #[.bool true,.int .i64 dr] 292)) [.bool true,.int .i64 x1,.int .i64 dr,.string ⟨#[48]⟩,.string ⟨#[]⟩] 155
  rw[World.size_alloc]at F
  obtain rfl:=H1.out rfl
  clear HN HD HH H1
  have F1:=F
  clear F
  have F2:=F1
  clear F1
  go_wp2_with fail
  refine cx (HP.out _ (hE.ofQ bt)) fun Y3 hq3=>?_
  have hB3:Q Y1 Y3:=Q.trans bt hq3
  have hQ3:Q W0 Y3:=Q.trans hQ1 hB3
  replace BS:=BS.keep hB3 BS.lt
  replace BZ:=BZ.keep hB3 BZ.lt
  replace s0:=BS.cell
  replace z0:=BZ.cell
  replace F2:=F2.keep hq3 F2.lt
  have f0:=F2.cell
  have g4:=F2.frozen 4
  have k0:=BZ.frozen 0
  have k1:=BZ.frozen 1
  have k2:=BZ.frozen 2
  have k3:=BZ.frozen 3
  have k4:=BZ.frozen 4
  have hne:Y1.heap.size+1≠w.heap.size+1+1:=by omega
  have hne2:w.heap.size+1+1≠Y1.heap.size+1:=by omega
  have hy:w.heap.size≤Y1.heap.size+1:=by omega
  have hy2:w.heap.size≤w.heap.size+1+1:=by omega
  generalize Y1.heap.size+1=bf at *
  generalize w.heap.size+1+1=bz at *
  have Z:=((((((BZ.setOther hne 4 (.string ⟨PL.toArray⟩)).set 0 (.bool true)).set 1 (.int .i64 x1)).set 2 (.int .i64 dr)).set 3 (.string ⟨#[48]⟩)).set 4 (.string ⟨PL.toArray⟩))
  simp only[List.set_cons_zero,List.set_cons_succ]at Z
  have hQe:=((((((Q.trans hq0 hQ3).setCell (p:=⟨bf,4,none⟩) hy (.string ⟨PL.toArray⟩)).setCell (p:=⟨bz,0,none⟩) hy2 (.bool true)).setCell (p:=⟨bz,1,none⟩) hy2 (.int .i64 x1)).setCell (p:=⟨bz,2,none⟩) hy2 (.int .i64 dr)).setCell (p:=⟨bz,3,none⟩) hy2 (.string ⟨#[48]⟩)).setCell (p:=⟨bz,4,none⟩) hy2 (.string ⟨PL.toArray⟩)
  clear HP F2
  have HR:=zcU Z
  go_wp2_with (exact bodyPost_ret (HR Tryz.f149 4 rfl _ rfl) rfl ⟨rfl,hQe⟩)
end
end Go.Proofs.YtagkadlaeeoblaaGreatDoor
