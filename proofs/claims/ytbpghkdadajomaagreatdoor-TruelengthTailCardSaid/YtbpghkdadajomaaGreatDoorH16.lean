/-
  Walks of package front: the fronts of any plan.; Walks of package front: Check, start, Distance.; surd.Scale by nothing; Compare of nothing with nothing.
-/
import Derived.Test.YtbpghkdadajomaaGreatDoorH15
import Derived.Test.YtbpghkdadajomaaGreatDoorH09
set_option maxRecDepth 100000
set_option maxHeartbeats 4000000
namespace Go.Proofs.YtbpghkdadajomaaGreatDoor
section
open Go.RowKit Go.Shelf Kp
attribute [local go_sem] Oper.semAt_some
theorem zpJ:(Tryz.prog.info? 76).map (fun i=>(i.zero,i.size,i.bytes))=some (some (.agg #[.bool false,.int .i64 0,.int .i64 0,.string ⟨#[]⟩,.string ⟨#[]⟩]),5,56):=by kernel_rfl
def zsX(r:List Sd)(i:Nat):Fr:=zjT (zcV r i) (zcV r ((i+1) % r.length))
def frN(r:List Sd)(k:Nat):List Value:=(List.range k).flatMap fun i=>frC (zsX r i)
theorem zqW(r:List Sd)(k:Nat):frN r (k+1)=frN r k++frC (zsX r k):=by unfold frN;rw[List.range_succ,List.flatMap_append];simp
def frR(R:List (List Sd))(k:Nat):List Value:=rowOf frC (zfb (R.take k))
theorem zrX(r:List Sd):frN r r.length=rowOf frC (zpj r):=by
 unfold frN rowOf zpj
 rw[List.flatMap_map]
 rfl
theorem zqV{R:List (List Sd)}{k:Nat}(h:k<R.length):frR R (k+1)=frR R k++frN (ringAt R k) (ringAt R k).length:=by
 rw[zrX]
 unfold frR
 rw[List.take_succ_eq_append_getElem h,zaG h]
 unfold zfb rowOf
 rw[List.flatMap_append,List.flatMap_append]
 simp
theorem zrW(R:List (List Sd)):frR R R.length=rowOf frC (zfb R):=by unfold frR;rw[List.take_length]
theorem zlZ(R:List (List Sd))(h:zdX R=0)(hn:R.length≤1000)(v:Value)(w:World)(hE:Env w)(hv:zf9 w v R) :
  Calls Tryz.prog 26 #[.agg #[v]] w fun e w'=>∃ v',e=.returned (.tuple #[v',.int .i64 0])∧w'.ownsRow w.heap.size 76 5 v' R.flatten.length (rowOf frC (zfb R))∧Q w w':=by
 have ok:=zm8 h
 have hle:=ok.le
 rw[← zrW,count_flatten,← znq]
 have HK:Hid (∀ W,Q w W→Calls Tryz.prog 69 #[.agg #[v]] W fun e w'=>e=.returned (.int .i64 0)∧Q W w'):=LH (fun W hq=>by
  have:=zjH R hn (by omega) v W (hv.keep hq)
  rw[h]at this
  exact this)
 have HRI:Hid (∀ W,Q w W→∃ a cap,v=.slice a R.length cap∧∀ i,i<R.length→∃ b o a2 c2,a=some ⟨b,o,none⟩∧W.cell? ⟨b,o+i,none⟩=some (.slice a2 (ringAt R i).length c2)∧zcp W a2 (ringAt R i)∧∀ k∈zb0 a2,k<W.heap.size):=LH (fun W hq=>(hv.keep hq).ring (fun r hr=>by have:=ok.four r hr;omega))
 have HRW:Hid (∀ i,i<R.length→0<(ringAt R i).length∧(ringAt R i).length≤24∧∀ s∈ringAt R i,Rgd s):=LH (fun i hi=>by
  have hm:ringAt R i∈R:=by rw[zaG hi];exact List.getElem_mem hi
  have h4:=ok.four _ hm
  exact⟨by omega,Nat.le_trans (zpi hm) hle,fun s hs=>ok.rg s (List.mem_flatten.2 ⟨_,hm,hs⟩)⟩)
 have HS1:Hid (∀ k,k<R.length→zk2 R (k+1)=zk2 R k+(ringAt R k).length):=LH (fun k hk=>zl7 hk)
 have HSl:Hid (∀ k,zk2 R k≤24):=LH (fun k=>Nat.le_trans (zp2 R k) hle)
 have HF1:Hid (∀ k,k<R.length→frR R (k+1)=frR R k++frN (ringAt R k) (ringAt R k).length):=LH (fun k hk=>zqV hk)
 obtain⟨a0,cap0,rfl,-⟩:=id hv
 clear ok h hv hle
 have hRz:(R.length:Int)≤1000:=by omega
 obtain⟨c0,ci,cz0,cz1,cz2⟩:=zb6 zpJ
 have B:=Blk.new w [.slice a0 R.length cap0] 24
 have hq1:Q w (w.alloc (.cells [Value.slice a0 R.length cap0].toArray 24)):=(Below.refl _ w).alloc (Nat.le_refl _) _
 have k0:=B.cell 0
 simp only[List.getElem?_cons_zero]at k0
 go_enter Tryz.func26,Tryz.ntmps26
 go_wp2_with fail
 refine(HK.out _ hq1).mono ?_
 rintro e w2⟨rfl,hq⟩
 replace B:=B.keep hq B.lt
 replace k0:=B.cell 0
 simp only[List.getElem?_cons_zero]at k0
 have hq2:=Q.trans hq1 hq
 have hsz:w.heap.size+1≤w2.heap.size:=by have:=hq.size;simpa using this
 clear hq hq1 HK
 go_wp2
 go_loopw [15,4] (fun i o wr=>∃ k:Nat,k≤R.length∧i=.int .i64 k∧wr.ownsRow w.heap.size 76 5 o (zk2 R k) (frR R k)∧Q w wr∧w.heap.size+1≤wr.heap.size) (fun i _ _=>R.length - (intOf i).toNat)
 case atStart=>exact⟨0,by omega,rfl,World.ownsRow_nil _ _ _ _,hq2,hsz⟩
 case round =>
  obtain⟨g,hg,rfl,howg,hQg,hszg⟩:=hrel
  by_cases hgl:g<R.length
  ·obtain⟨a',cap',he,hcg⟩:=HRI.out w (Q.refl w)
   obtain⟨b1,o1,a2,c2,ha,hcell,hrow,-⟩:=hcg g hgl
   injection he with he1 he2 he3
   subst he1 he3
   subst ha
   obtain⟨hl0,hl24,hrg⟩:=HRW.out g hgl
   replace hcell:=ze hQg hcell
   have HR:=LH hrow
   have HRG:=LH hrg
   have HSg:=LH (HS1.out g hgl)
   have HFg:=LH (HF1.out g hgl)
   have hcg24:=HSl.out (g+1)
   rw[HSg.out]at hcg24
   have hlz:((ringAt R g).length:Int)≤24:=by omega
   have hz1:(0:Int)<(ringAt R g).length:=by omega
   have hgz:(g:Int)<R.length:=by omega
   have hg0:(0:Int)≤g:=by omega
   obtain⟨P,hP⟩:∃ P,frR R g=P:=⟨_,rfl⟩
   obtain⟨p,hp⟩:∃ p,zk2 R g=p:=⟨_,rfl⟩
   rw[hP]at howg HFg
   rw[hp]at howg HSg hcg24
   have HP0:Hid (P=P++frN (ringAt R g) 0):=LH (by unfold frN;simp)
   clear hP hp hcg hrow hrg
   generalize ringAt R g=r at *
   generalize u4=og at *
   generalize wr=WG at *
   go_wp2
   go_loopw [21,4] (fun i o wr=>∃ k:Nat,k≤r.length∧i=.int .i64 k∧wr.ownsRow w.heap.size 76 5 o (p+k) (P++frN r k)∧Q w wr∧w.heap.size+1≤wr.heap.size) (fun i _ _=>r.length - (intOf i).toNat)
   case atStart=>exact⟨0,by omega,rfl,by rw[← HP0.out];exact howg,hQg,hszg⟩
   case round =>
    obtain⟨k,hk,rfl,hown,hQ,hsz'⟩:=hrel
    by_cases hlt:k<r.length
    ·obtain⟨b,o,rfl,hc⟩:=(HR.out.q hQ) k hlt
     obtain⟨b',o',he,hd⟩:=(HR.out.q hQ) ((k+1) % r.length) (Nat.mod_lt _ hl0)
     injection he with he
     injection he with he1 he2
     subst he1 he2
     obtain⟨q,hq'⟩:∃ q,(k+1) % r.length=q:=⟨_,rfl⟩
     have hqn:q<r.length:=by rw[← hq'];exact Nat.mod_lt _ hl0
     have e1:=Go.IntWalk.i64_in ((k:Int)+1) (by omega)
     have e2:((k:Int)+1).tmod (r.length:Int)=(q:Int):=by
      rw[Int.tmod_eq_emod_of_nonneg (by omega),show ((k:Int)+1)=((k+1:Nat):Int) by omega,← hq'];exact(Int.natCast_emod _ _).symm
     have hkz:(k:Int)<r.length:=by omega
     have hk0:(0:Int)≤k:=by omega
     have hqz:(q:Int)<r.length:=by omega
     have hq0:(0:Int)≤q:=by omega
     have hnz:¬ r=[]:=by
      intro h
      rw[h]at hl0
      simp at hl0
     have HF:=LH (fun W hW=>zqU (zcV r k) (zcV r q) (HRG.out _ (zqr hlt)) W hW)
     have HS:Hid (P++frN r (k+1)=P++(frN r k++frC (zjT (zcV r k) (zcV r q)))):=LH (by rw[zqW,zsX,hq'])
     rw[hq']at hd
     generalize zjT (zcV r k) (zcV r q)=f at *
     generalize zcV r k=s at *
     generalize zcV r q=t at *
     unfold frC at HF HS
     unfold sdC at hc hd HF
     have d0:=hc 0 _ rfl
     have d1:=hc 1 _ rfl
     have d2:=hc 2 _ rfl
     have d3:=hc 3 _ rfl
     have d4:=hc 4 _ rfl
     have d5:=hc 5 _ rfl
     have d6:=hc 6 _ rfl
     have n0:=hd 0 _ rfl
     have n1:=hd 1 _ rfl
     have n2:=hd 2 _ rfl
     have n3:=hd 3 _ rfl
     have n4:=hd 4 _ rfl
     have n5:=hd 5 _ rfl
     have n6:=hd 6 _ rfl
     rw[Nat.add_zero]at d0 n0
     clear hc hd
     have M:=Blk.new wr [.int .i64 s.x,.int .i64 s.y,.int .i64 s.rise,.int .i64 s.run,.bool s.gable,.int .i64 s.plate,.int .i64 s.over] 36
     have hqa:Q wr (wr.alloc (.cells [Value.int .i64 s.x,.int .i64 s.y,.int .i64 s.rise,.int .i64 s.run,.bool s.gable,.int .i64 s.plate,.int .i64 s.over].toArray 36)):=(Below.refl _ wr).alloc (Nat.le_refl _) _
     obtain⟨W1,hW1⟩:∃ W1,wr.alloc (.cells #[.int .i64 s.x,.int .i64 s.y,.int .i64 s.rise,.int .i64 s.run,.bool s.gable,.int .i64 s.plate,.int .i64 s.over] 36)=W1:=⟨_,rfl⟩
     have hW1':wr.alloc (.cells [Value.int .i64 s.x,.int .i64 s.y,.int .i64 s.rise,.int .i64 s.run,.bool s.gable,.int .i64 s.plate,.int .i64 s.over].toArray 36)=W1:=hW1
     rw[hW1']at M hqa
     clear hW1'
     go_wp2_with fail
     try rw[hW1]
     clear hW1
     have hEd:Env W1.drew:=(hE.ofQ (Q.trans hQ (Q.trans hqa (Below.drew (Q.refl W1)))))
     have hqd:Q wr W1.drew:=Q.trans hqa (Below.drew (Q.refl W1))
     have m0:=M.drew.cell 0
     have m1:=M.drew.cell 1
     have m2:=M.drew.cell 2
     have m3:=M.drew.cell 3
     have m4:=M.drew.cell 4
     have m5:=M.drew.cell 5
     have m6:=M.drew.cell 6
     simp only[zs4,zs5]at m0 m1 m2 m3 m4 m5 m6
     replace n0:=ze hqd n0
     replace n1:=ze hqd n1
     replace n2:=ze hqd n2
     replace n3:=ze hqd n3
     replace n4:=ze hqd n4
     replace n5:=ze hqd n5
     replace n6:=ze hqd n6
     clear d0 d1 d2 d3 d4 d5 d6
     refine RF.zo (ρ:=zsP W1.drew.heap.size) 12 (by kernel_rfl) (by kernel_rfl) rfl ?_
     refine RF.svp 0 ?_
     refine RF.svq 1 rfl (by intro w' hq;have hc0:=ze (hq (Nat.le_refl _)) m0;have hc1:=ze (hq (Nat.le_refl _)) m1;have hc2:=ze (hq (Nat.le_refl _)) m2;have hc3:=ze (hq (Nat.le_refl _)) m3;have hc4:=ze (hq (Nat.le_refl _)) m4;have hc5:=ze (hq (Nat.le_refl _)) m5;have hc6:=ze (hq (Nat.le_refl _)) m6;go_simp;try with_reducible rfl) ?_
     refine RF.svp 2 ?_
     refine RF.svp 3 ?_
     refine RF.svp 4 ?_
     refine RF.svp 5 ?_
     refine RF.svp 6 ?_
     refine RF.svp 7 ?_
     refine RF.svp 8 ?_
     refine RF.svq 9 rfl (by intro w' hq;have hc0:=ze (hq (Nat.le_refl _)) n0;have hc1:=ze (hq (Nat.le_refl _)) n1;have hc2:=ze (hq (Nat.le_refl _)) n2;have hc3:=ze (hq (Nat.le_refl _)) n3;have hc4:=ze (hq (Nat.le_refl _)) n4;have hc5:=ze (hq (Nat.le_refl _)) n5;have hc6:=ze (hq (Nat.le_refl _)) n6;go_simp;try with_reducible rfl) ?_
     refine RF.zh (i:=10) (v:=_) rfl rfl (by kernel_rfl) (by kernel_rfl) (fun _ _ _ h=>h) (by rfl) ?_ (fun w' hq=>HF.out w' (hEd.ofQ (hq (Nat.le_refl _)))) ?_
     ·(intro w' hq;go_simp;try with_reducible rfl)
     simp only[Act.put,zs1,zs2,zs3]
     refine RF.za5 (i:=11) (fun w'=>.slice (some ⟨w'.heap.size,0,none⟩) 1 1) (.cells #[.bool f.up,.int .i64 f.coord,.int .i64 f.dir,.string ⟨(za f.speed).toArray⟩,.string ⟨(za f.start).toArray⟩] 76) rfl rfl (by kernel_rfl) (by rfl) (fun w' hq=>by go_simp;try with_reducible rfl) (fun w3 hq3=>?_)
     simp only[Act.put,zs1,zs2,zs3]
     refine RF.zi (by kernel_rfl) (fun w5 hq5=>?_)
     simp only[List.drop_succ_cons,List.drop_zero]
     have T:=(Blk.new w3 [.bool f.up,.int .i64 f.coord,.int .i64 f.dir,.string ⟨(za f.speed).toArray⟩,.string ⟨(za f.start).toArray⟩] 76).keep hq5 (by simp)
     have hq35:Q wr w5:=Q.trans hqd (Q.trans hq3 (Q.trans ((Below.refl _ w3).alloc (Nat.le_refl _) _) hq5))
     have hown5:=zf hown hq35
     have hQ5:=Q.trans hQ hq35
     have hsz5:=Nat.le_trans hsz' hq35.size
     clear hq3 hq5 m0 m1 m2 m3 m4 m5 m6 n0 n1 n2 n3 n4 n5 n6 HF M hown hqa hqd hEd
     generalize w3.heap.size=t3 at *
     go_wp2_with (at_builtin;refine wpList_append_own_at _ rfl (.tmp 26) (.tmp 37) 71 rfl w.heap.size 76 c0 _ 5 56 Tryz.underlying71 ci cz0 cz1 cz2 rfl (by decide) u4 (p+k) (P++frN r k) rfl hown5 ⟨t3,0,none⟩ 1 1 [.bool f.up,.int .i64 f.coord,.int .i64 f.dir,.string ⟨(za f.speed).toArray⟩,.string ⟨(za f.start).toArray⟩] rfl rfl (fun j z hj=>by rw[Addr.add_lit,Nat.zero_add];exact(T.cell j).trans hj) (by
      intro z hz
      simp only[List.mem_cons,List.not_mem_nil,or_false]at hz
      rcases hz with rfl | rfl | rfl | rfl | rfl <;> rfl) (by unfold maxLen;omega) (by omega) (by omega) ?_)
     intro v9 w9 hown9 hgrow9 _ _
     have hQ9:Q w w9:=hQ5.grown hgrow9 (by omega) (fun j hj=>(hown5.lt j hj).1)
     have hsz9:=Nat.le_trans hsz5 hgrow9.size
     rw[← HS.out]at hown9
     clear hown5 hgrow9 T hq35 HS
     go_wp2
     go_roundw
     case rel=>exact⟨k+1,by omega,by go_num,hown9,hQ9,hsz9⟩
     case measure=>simp[intOf];omega
    ·obtain rfl:k=r.length:=by omega
     go_wp2
     go_roundw
     case rel=>exact⟨g+1,by omega,by go_num,by rw[HSg.out,HFg.out];exact hown,hQ,hsz'⟩
     case measure=>simp[intOf];omega
  ·obtain rfl:g=R.length:=by omega
   go_wp2
   go_ret2
   exact⟨_,rfl,howg,hQg⟩
end
section
open Go.RowKit Go.Shelf Kp
attribute [local go_sem] Oper.semAt_some
theorem Bd.opp{n:Nat}{y:Rat}(h:Bd n y):Bd n (-y):=⟨by show (-y.num).natAbs<_;rw[Int.natAbs_neg];exact h.1,h.2⟩
theorem Bd.less{m n:Nat}{x y:Rat}(hx:Bd m x)(hy:Bd n y):Bd (m+n+1) (x - y):=by
 rw[Rat.sub_eq_add_neg]
 exact hx.add hy.opp
theorem zmQ(f:Fr)(h:FrOk f)(w:World)(hE:Env w) :
  Calls Tryz.prog 133 #[.agg (frC f).toArray] w fun e w'=>e=.returned (.int .i64 0)∧Q w w':=by
 have HS:=LH (fun w hw=>zm f.speed (h.s.zak (by decide)) w hw)
 have HT:=LH (fun w hw=>zm f.start (h.p.zak (by decide)) w hw)
 have HU:=LH (fun w hw=>zdx f.speed (h.s.mono (by decide)) w hw)
 have HV:=LH (fun w hw=>zdx f.start (h.p.mono (by decide)) w hw)
 have HP:=LH (fun w=>zG (za f.speed) w)
 have hneg:decide ((za f.speed).head? = some 45)=false:=by rw[decide_eq_false_iff_not,zbf];have:=h.s0;omega
 rw[hneg]at HP
 have hd:=h.d
 have h0:=h.c0
 have h1:=h.c1
 clear h hneg
 unfold frC
 generalize za f.speed=S at *
 generalize za f.start=T at *
 obtain⟨up,co,dr,sp,st⟩:=f
 simp only at h0 h1 hd ⊢
 have e1:decide (co<0)=false:=by rw[decide_eq_false_iff_not];omega
 have e2:decide ((65536:Int)<co)=false:=by rw[decide_eq_false_iff_not];omega
 have B:=(Blk.new w [.bool up,.int .i64 co,.int .i64 dr,.string ⟨S.toArray⟩,.string ⟨T.toArray⟩] 76).alloc (.cells #[.string ⟨S.toArray⟩,.string ⟨T.toArray⟩] 30)
 have N:=Blk.new (w.alloc (.cells #[.bool up,.int .i64 co,.int .i64 dr,.string ⟨S.toArray⟩,.string ⟨T.toArray⟩] 76)) [.string ⟨S.toArray⟩,.string ⟨T.toArray⟩] 30
 rw[World.size_alloc]at N
 obtain⟨W0,hW0⟩:∃ W0,(w.alloc (.cells #[.bool up,.int .i64 co,.int .i64 dr,.string ⟨S.toArray⟩,.string ⟨T.toArray⟩] 76)).alloc (.cells #[.string ⟨S.toArray⟩,.string ⟨T.toArray⟩] 30)=W0:=⟨_,rfl⟩
 have hq0:Q w W0:=by rw[← hW0];exact bt
 have hEw:=hE.ofQ hq0
 rw[hW0]at B N
 clear hE
 have hE:=hEw
 clear hEw
 rcases hd with rfl | rfl
 all_goals
  have hQ0:=Q.refl W0
  replace b0:=B.cell 0
  replace b1:=B.cell 1
  replace b2:=B.cell 2
  replace b3:=B.cell 3
  replace b4:=B.cell 4
  simp only[zs4,zs5]at b0 b1 b2 b3 b4
  replace lB:=B.lt
  replace n0:=N.cell 0
  replace n1:=N.cell 1
  simp only[zs4,zs5]at n0 n1
  replace lN:=N.lt
  go_enter Tryz.func133,Tryz.ntmps133
  go_wp2
  refine wp_loop_rounds 3 ?_
  rw[rounds_succ]
  clear hW0
  go_wp2_with fail
  refine(HS.out _ (hE.ofQ bt)).mono ?_
  rintro e Y1⟨rfl,hq1⟩
  have hs1:Q W0 Y1:=Q.trans bt hq1
  have hQ1:Q W0 Y1:=Q.trans hQ0 hs1
  replace B:=B.keep hs1 B.lt
  replace b0:=B.cell 0
  replace b1:=B.cell 1
  replace b2:=B.cell 2
  replace b3:=B.cell 3
  replace b4:=B.cell 4
  simp only[zs4,zs5]at b0 b1 b2 b3 b4
  replace lB:=B.lt
  replace N:=N.keep hs1 N.lt
  replace n0:=N.cell 0
  replace n1:=N.cell 1
  simp only[zs4,zs5]at n0 n1
  replace lN:=N.lt
  go_wp2
  rw[rounds_succ]
  go_wp2_with fail
  refine(HT.out _ (hE.ofQ bt)).mono ?_
  rintro e Y2⟨rfl,hq2⟩
  have hs2:Q Y1 Y2:=Q.trans bt hq2
  have hQ2:Q W0 Y2:=Q.trans hQ1 hs2
  replace B:=B.keep hs2 B.lt
  replace b0:=B.cell 0
  replace b1:=B.cell 1
  replace b2:=B.cell 2
  replace b3:=B.cell 3
  replace b4:=B.cell 4
  simp only[zs4,zs5]at b0 b1 b2 b3 b4
  replace lB:=B.lt
  replace N:=N.keep hs2 N.lt
  replace n0:=N.cell 0
  replace n1:=N.cell 1
  simp only[zs4,zs5]at n0 n1
  replace lN:=N.lt
  go_wp2
  rw[rounds_succ]
  clear N lN n0 n1
  obtain⟨W2,hW2⟩:∃ W2,Y2.alloc (.cells #[.string ⟨S.toArray⟩,.string ⟨T.toArray⟩] 30)=W2:=⟨_,rfl⟩
  have N:=Blk.new Y2 [.string ⟨S.toArray⟩,.string ⟨T.toArray⟩] 30
  have N:Blk W2 Y2.heap.size [.string ⟨S.toArray⟩,.string ⟨T.toArray⟩] 30:=by rw[← hW2];exact N
  have hqW:Q Y2 W2:=by rw[← hW2];exact bt
  have hE2:=hE.ofQ (Q.trans hQ2 hqW)
  have hQW:=Q.trans hQ2 hqW
  replace B:=B.keep hqW B.lt
  clear hE
  have hE:=hE2
  clear hE2
  have bb3:=b3
  have bb4:=b4
  have hQ0:=Q.refl W2
  replace b0:=B.cell 0
  replace b1:=B.cell 1
  replace b2:=B.cell 2
  replace b3:=B.cell 3
  replace b4:=B.cell 4
  simp only[zs4,zs5]at b0 b1 b2 b3 b4
  replace lB:=B.lt
  replace n0:=N.cell 0
  replace n1:=N.cell 1
  simp only[zs4,zs5]at n0 n1
  replace lN:=N.lt
  go_wp2
  refine wp_loop_rounds 3 ?_
  rw[rounds_succ]
  clear hW2
  go_wp2_with fail
  refine(HU.out _ (hE.ofQ bt)).mono ?_
  rintro e Z1⟨rfl,hq1⟩
  have hs1:Q W2 Z1:=Q.trans bt hq1
  have hQ1:Q W2 Z1:=Q.trans hQ0 hs1
  replace B:=B.keep hs1 B.lt
  replace b0:=B.cell 0
  replace b1:=B.cell 1
  replace b2:=B.cell 2
  replace b3:=B.cell 3
  replace b4:=B.cell 4
  simp only[zs4,zs5]at b0 b1 b2 b3 b4
  replace lB:=B.lt
  replace N:=N.keep hs1 N.lt
  replace n0:=N.cell 0
  replace n1:=N.cell 1
  simp only[zs4,zs5]at n0 n1
  replace lN:=N.lt
  go_wp2
  rw[rounds_succ]
  go_wp2_with fail
  refine(HV.out _ (hE.ofQ bt)).mono ?_
  rintro e Z2⟨rfl,hq2⟩
  have hs2:Q Z1 Z2:=Q.trans bt hq2
  have hQ2:Q W2 Z2:=Q.trans hQ1 hs2
  replace B:=B.keep hs2 B.lt
  replace b0:=B.cell 0
  replace b1:=B.cell 1
  replace b2:=B.cell 2
  replace b3:=B.cell 3
  replace b4:=B.cell 4
  simp only[zs4,zs5]at b0 b1 b2 b3 b4
  replace lB:=B.lt
  replace N:=N.keep hs2 N.lt
  replace n0:=N.cell 0
  replace n1:=N.cell 1
  simp only[zs4,zs5]at n0 n1
  replace lN:=N.lt
  go_wp2
  rw[rounds_succ]
  go_wp2_with fail
  refine(HP.out _).mono ?_
  rintro e w9⟨rfl,rfl⟩
  have hQe:Q w Z2:=Q.trans hq0 (Q.trans hQW hQ2)
  go_wp2
  go_ret
  exact⟨rfl,hQe⟩
theorem zmP(f:Fr)(h:FrOk f)(x y:Rat)(hx:Bd 36 x)(hy:Bd 36 y)(b c:Nat)(w:World)(hE:Env w)(hb:Blk w b [.string ⟨(za x).toArray⟩,.string ⟨(za y).toArray⟩] 30) :
  Calls Tryz.prog 72 #[.agg (frC f).toArray,.slice (some ⟨b,0,none⟩) 2 c] w fun e w'=>e=.returned (.int .i64 0)∧Q w w':=by
 have HC:=LH (fun w hw=>zmQ f h w hw)
 have HX:=LH (fun w hw=>zdx x hx w hw)
 have HY:=LH (fun w hw=>zdx y hy w hw)
 clear h hx hy
 unfold frC at *
 generalize za f.speed=S at *
 generalize za f.start=T at *
 generalize za x=X at *
 generalize za y=Y at *
 obtain⟨up,co,dr,sp,st⟩:=f
 simp only at HC ⊢
 have B:=Blk.new w [.bool up,.int .i64 co,.int .i64 dr,.string ⟨S.toArray⟩,.string ⟨T.toArray⟩] 76
 have N:=hb.alloc (.cells #[.bool up,.int .i64 co,.int .i64 dr,.string ⟨S.toArray⟩,.string ⟨T.toArray⟩] 76)
 obtain⟨W0,hW0⟩:∃ W0,w.alloc (.cells #[.bool up,.int .i64 co,.int .i64 dr,.string ⟨S.toArray⟩,.string ⟨T.toArray⟩] 76)=W0:=⟨_,rfl⟩
 have hq0:Q w W0:=by rw[← hW0];exact bt
 have hEw:=hE.ofQ hq0
 have B:Blk W0 w.heap.size [.bool up,.int .i64 co,.int .i64 dr,.string ⟨S.toArray⟩,.string ⟨T.toArray⟩] 76:=by rw[← hW0];exact B
 rw[hW0]at N
 clear hE hb
 have hE:=hEw
 clear hEw
 have hQ0:=Q.refl W0
 replace b0:=B.cell 0
 replace b1:=B.cell 1
 replace b2:=B.cell 2
 replace b3:=B.cell 3
 replace b4:=B.cell 4
 simp only[zs4,zs5]at b0 b1 b2 b3 b4
 replace lB:=B.lt
 replace n0:=N.cell 0
 replace n1:=N.cell 1
 simp only[zs4,zs5]at n0 n1
 replace lN:=N.lt
 go_enter Tryz.func72,Tryz.ntmps72
 go_wp2_with fail
 clear hW0
 go_wp2_with fail
 refine(HC.out _ (hE.ofQ bt)).mono ?_
 rintro e Y1⟨rfl,hq1⟩
 have hs1:Q W0 Y1:=Q.trans bt hq1
 have hQ1:Q W0 Y1:=Q.trans hQ0 hs1
 replace B:=B.keep hs1 B.lt
 replace b0:=B.cell 0
 replace b1:=B.cell 1
 replace b2:=B.cell 2
 replace b3:=B.cell 3
 replace b4:=B.cell 4
 simp only[zs4,zs5]at b0 b1 b2 b3 b4
 replace lB:=B.lt
 replace N:=N.keep hs1 N.lt
 replace n0:=N.cell 0
 replace n1:=N.cell 1
 simp only[zs4,zs5]at n0 n1
 replace lN:=N.lt
 go_wp2
 refine wp_loop_rounds 3 ?_
 rw[rounds_succ]
 go_wp2_with fail
 refine(HX.out _ (hE.ofQ bt)).mono ?_
 rintro e Y2⟨rfl,hq2⟩
 have hs2:Q Y1 Y2:=Q.trans bt hq2
 have hQ2:Q W0 Y2:=Q.trans hQ1 hs2
 replace B:=B.keep hs2 B.lt
 replace b0:=B.cell 0
 replace b1:=B.cell 1
 replace b2:=B.cell 2
 replace b3:=B.cell 3
 replace b4:=B.cell 4
 simp only[zs4,zs5]at b0 b1 b2 b3 b4
 replace lB:=B.lt
 replace N:=N.keep hs2 N.lt
 replace n0:=N.cell 0
 replace n1:=N.cell 1
 simp only[zs4,zs5]at n0 n1
 replace lN:=N.lt
 go_wp2
 rw[rounds_succ]
 go_wp2_with fail
 refine(HY.out _ (hE.ofQ bt)).mono ?_
 rintro e Y3⟨rfl,hq3⟩
 have hs3:Q Y2 Y3:=Q.trans bt hq3
 have hQ3:Q W0 Y3:=Q.trans hQ2 hs3
 replace B:=B.keep hs3 B.lt
 replace b0:=B.cell 0
 replace b1:=B.cell 1
 replace b2:=B.cell 2
 replace b3:=B.cell 3
 replace b4:=B.cell 4
 simp only[zs4,zs5]at b0 b1 b2 b3 b4
 replace lB:=B.lt
 replace N:=N.keep hs3 N.lt
 replace n0:=N.cell 0
 replace n1:=N.cell 1
 simp only[zs4,zs5]at n0 n1
 replace lN:=N.lt
 go_wp2
 rw[rounds_succ]
 have hQe:=Q.trans hq0 hQ3
 go_wp2
 go_ret
 exact⟨rfl,hQe⟩
theorem zjr(f:Fr)(h:FrOk f)(x y:Rat)(hx:Bd 30 x)(hy:Bd 30 y)(w:World)(hE:Env w) :
  Calls Tryz.prog 27 #[.agg (frC f).toArray,.agg #[.string ⟨(za x).toArray⟩,.string ⟨(za y).toArray⟩]] w fun e w'=>e=.returned (.tuple #[.string ⟨(za (zr0 f x y)).toArray⟩,.int .i64 0])∧Q w w':=by
 have HT:=LH (fun b c w hw hb=>zmP f h x y (hx.mono (by decide)) (hy.mono (by decide)) b c w hw hb)
 have hd1:f.dir.natAbs<10 ^ 1:=by rcases h.d with e | e <;> rw[e] <;> decide
 have hc1:f.coord.natAbs<10 ^ 5:=by have:=h.c0;have:=h.c1;omega
 have HD:=LH (fun w hw=>ziZ f.dir (by omega) w hw)
 have HC:=LH (fun w hw=>ziZ f.coord (by omega) w hw)
 have bd:=zi6 hd1 (by decide)
 have bc:=zi6 hc1 (by decide)
 obtain⟨z,hz⟩:∃ z,(if f.up then x else y)=z:=⟨_,rfl⟩
 have bz:Bd 30 z:=by rw[← hz];split <;> assumption
 have HS:=LH (fun w hw=>zpQ z (f.coord:Rat) bz bc (by decide) w hw)
 have HM:=LH (fun w hw=>zpR (f.dir:Rat) (z - (f.coord:Rat)) bd (bz.less bc) (by decide) w hw)
 unfold zr0
 rw[hz]
 have hst:za z=if f.up then za x else za y:=by rw[← hz];split <;> rfl
 unfold frC at *
 generalize za ((f.dir:Rat)*(z - (f.coord:Rat)))=R4 at *
 generalize za (z - (f.coord:Rat))=R3 at *
 generalize za (f.dir:Rat)=R1 at *
 generalize za (f.coord:Rat)=R2 at *
 generalize za z=ZZ at *
 generalize za f.speed=S at *
 generalize za f.start=T at *
 generalize za x=X at *
 generalize za y=YY at *
 clear bd bc bz hz hd1 hc1 h hx hy
 obtain⟨up,co,dr,sp,st⟩:=f
 simp only at HT HD HC hst ⊢
 have B:=((Blk.new w [.bool up,.int .i64 co,.int .i64 dr,.string ⟨S.toArray⟩,.string ⟨T.toArray⟩] 76).alloc (.cells #[.string ⟨X.toArray⟩,.string ⟨YY.toArray⟩] 78)).alloc (.cells #[.string ⟨X.toArray⟩,.string ⟨YY.toArray⟩] 30)
 have P:=(Blk.new1 w (.cells #[.bool up,.int .i64 co,.int .i64 dr,.string ⟨S.toArray⟩,.string ⟨T.toArray⟩] 76) [.string ⟨X.toArray⟩,.string ⟨YY.toArray⟩] 78).alloc (.cells #[.string ⟨X.toArray⟩,.string ⟨YY.toArray⟩] 30)
 have N:=Blk.new2 w (.cells #[.bool up,.int .i64 co,.int .i64 dr,.string ⟨S.toArray⟩,.string ⟨T.toArray⟩] 76) (.cells #[.string ⟨X.toArray⟩,.string ⟨YY.toArray⟩] 78) [.string ⟨X.toArray⟩,.string ⟨YY.toArray⟩] 30
 obtain⟨W0,hW0⟩:∃ W0,((w.alloc (.cells #[.bool up,.int .i64 co,.int .i64 dr,.string ⟨S.toArray⟩,.string ⟨T.toArray⟩] 76)).alloc (.cells #[.string ⟨X.toArray⟩,.string ⟨YY.toArray⟩] 78)).alloc (.cells #[.string ⟨X.toArray⟩,.string ⟨YY.toArray⟩] 30)=W0:=⟨_,rfl⟩
 have hq0:Q w W0:=by rw[← hW0];exact bt
 have hEw:=hE.ofQ hq0
 have N:Blk W0 (w.heap.size+2) [.string ⟨X.toArray⟩,.string ⟨YY.toArray⟩] 30:=by rw[← hW0];exact N
 rw[hW0]at B P
 clear hE
 have hE:=hEw
 clear hEw
 have HT2:=LH (fun c W (hq:Q W0 W)=>HT.out (w.heap.size+2) c W (hE.ofQ hq) (N.keep hq N.lt))
 clear HT
 cases up
 all_goals
  simp only[if_true,Bool.false_eq_true,if_false]at hst
  subst hst
  have hQ0:=Q.refl W0
  replace b0:=B.cell 0
  replace b1:=B.cell 1
  replace b2:=B.cell 2
  replace b3:=B.cell 3
  replace b4:=B.cell 4
  simp only[zs4,zs5]at b0 b1 b2 b3 b4
  replace lB:=B.lt
  replace p0:=P.cell 0
  replace p1:=P.cell 1
  simp only[zs4,zs5]at p0 p1
  replace lP:=P.lt
  go_enter Tryz.func27,Tryz.ntmps27
  go_wp2_with fail
  clear hW0
  refine(HT2.out _ _ (Q.refl W0)).mono ?_
  rintro e w1⟨rfl,hq1⟩
  replace B:=B.keep hq1 B.lt
  replace P:=P.keep hq1 P.lt
  have hE1:=hE.ofQ (Q.trans hq1 (Below.drew (Q.refl w1)))
  have b1:=B.drew.cell 1
  have b2:=B.drew.cell 2
  replace b0:=B.cell 0
  replace p0:=P.cell 0
  replace p1:=P.cell 1
  simp only[zs4,zs5]at b0 b1 b2 p0 p1
  go_wp2_with fail
  refine zo 11 rfl (by kernel_rfl) rfl ?_
  refine svp 0 ?_
  refine svq 1 rfl (by intro w' hq;have hc0:=ze hq b2;go_simp;try with_reducible rfl) ?_
  refine zh (i:=2) (v:=_) rfl rfl (by kernel_rfl) (by kernel_rfl) (fun _ _ _ h=>h) (by rfl) ?_ (fun w' hq=>HD.out w' (hE1.ofQ hq)) ?_
  ·(intro w' hq;go_simp;try with_reducible rfl)
  simp only[Act.put,zs1,zs2,zs3]
  refine svp 3 ?_
  refine svp 4 ?_
  refine svq 5 rfl (by intro w' hq;have hc0:=ze hq b1;go_simp;try with_reducible rfl) ?_
  refine zh (i:=6) (v:=_) rfl rfl (by kernel_rfl) (by kernel_rfl) (fun _ _ _ h=>h) (by rfl) ?_ (fun w' hq=>HC.out w' (hE1.ofQ hq)) ?_
  ·(intro w' hq;go_simp;try with_reducible rfl)
  simp only[Act.put,zs1,zs2,zs3]
  refine zh (i:=7) (v:=_) rfl rfl (by kernel_rfl) (by kernel_rfl) (fun _ _ _ h=>h) (by rfl) ?_ (fun w' hq=>HS.out w' (hE1.ofQ hq)) ?_
  ·(intro w' hq;go_simp;try with_reducible rfl)
  simp only[Act.put,zs1,zs2,zs3]
  refine zh (i:=8) (v:=_) rfl rfl (by kernel_rfl) (by kernel_rfl) (fun _ _ _ h=>h) (by rfl) ?_ (fun w' hq=>HM.out w' (hE1.ofQ hq)) ?_
  ·(intro w' hq;go_simp;try with_reducible rfl)
  simp only[Act.put,zs1,zs2,zs3]
  refine svp 9 ?_
  refine svp 10 ?_
  refine zi (by kernel_rfl) (fun w3 hq3=>?_)
  simp only[List.drop_succ_cons,List.drop_nil]
  have hQe:Q w w3:=Q.trans hq0 (Q.trans hq1 (Q.trans (Below.drew (Q.refl _)) hq3))
  go_wp2
  go_ret2
  exact⟨rfl,hQe⟩
end
section
open Go.RowKit Kp
theorem zin(x:Rat)(l:Nat)(hx:Term1 x l)(bx:Bd 40 x)(hl:l<10 ^ 40)(B:Nat)(v:Value)(w:World)(hE:Env w)(hv:zaJ w B v x l) :
  Calls Tryz.prog 11 #[v,.string ⟨#[48]⟩] w fun e w'=>e=.returned (.tuple #[.slice none 0 0,.int .i64 0])∧Q w w':=by
 have HC:=LH (zaV x l hx B v w hE hv)
 have b0:Bd 1 0:=⟨by decide,by decide⟩
 have hr:=fun w hw=>zm 0 (b0.zak (by decide)) w hw
 rw[zI]at hr
 have HR:=LH hr
 have hsc:=fun v w hw hs=>zee [(x,l)] 0 (b0.mono (by decide)) (fun t ht=>by rw[List.mem_singleton]at ht;subst ht;exact bx.mono (by decide)) (by simp) v w hw hs
 rw[show (zcI 0 [(x,l)]).map ofC=[ofC (x*0,l)] by simp[zcI],zI]at hsc
 have HSC:=LH hsc
 have hlq:Bd 42 (l:Rat):=⟨by rw[Rat.num_natCast,Int.natAbs_natCast];exact Nat.lt_of_lt_of_le hl (by decide),by rw[Rat.den_natCast];exact by decide⟩
 have hmk:∀ (rest:List Value) (cap b:Nat) (t:TypeId) (w:World),Env w→Blk w b (.string ⟨(za (x*0)).toArray⟩::.string ⟨(Lib.itoa (l:Int)).toArray⟩::rest) t →
   Calls Tryz.prog 38 #[.slice (some ⟨b,0,none⟩) 1 cap] w fun e w'=>e=.returned (.tuple #[.slice none 0 0,.int .i64 0])∧Q w w':=fun rest cap b t w hw hb'=>by
  rw[Rat.mul_zero,zI,← zT]at hb'
  exact zhQ (l:Rat) (hlq.zak (by decide)) (by rw[Rat.num_natCast];omega) b t w hw hb'
 have HMK:=LH hmk
 have r1:Hid (w.ownsRow B 84 2 v ([(x,l)].map ofC).length (zcn ([(x,l)].map ofC))):=LH hv
 obtain⟨g1,c1,rfl,-,-⟩:=World.ownsRow.form hv (by omega)
 clear hx bx hl hr hsc hlq hmk hv b0
 have hP1:(ofC (x*0,l)).1=za (x*0):=rfl
 have hP2:(ofC (x*0,l)).2=Lib.itoa (l:Int):=rfl
 rw[← hP1,← hP2]at HMK
 clear hP1 hP2
 generalize ofC (x*0,l)=P1 at *
 go_enter Tryz.func11,Tryz.ntmps11
 go_wp2_with fail
 refine HC.out.mono ?_
 rintro e w1⟨rfl,hq1⟩
 go_wp2_with fail
 refine(HR.out _ (hE.q hq1)).mono ?_
 rintro e w2⟨rfl,hq2⟩
 have hQ2:=Q.trans hq1 hq2
 go_wp2_with fail
 refine(HSC.out _ _ (hE.q hQ2) (TSl.of_row (zf r1.out hQ2))).mono ?_
 rintro e w3⟨v3,rfl,hq3,hr3⟩
 have hQ3:=Q.trans hQ2 hq3
 obtain⟨g3,c3,rest3,rfl,-,hb3⟩:=zmn (P:=.string ⟨P1.1.toArray⟩) (R:=.string ⟨P1.2.toArray⟩) hr3
 clear hr3
 go_wp2_with fail
 refine(HMK.out rest3 c3 g3 _ _ (hE.q hQ3) hb3).mono ?_
 rintro e w4⟨rfl,hq4⟩
 have hQ4:=Q.trans hQ3 hq4
 go_wp2
 go_ret2
 exact⟨rfl,hQ4⟩
theorem zpM(w:World):Calls Tryz.prog 164 #[.slice none 0 0,.int .i64 0] w fun e w'=>e=.returned (.slice none 0 0)∧Q w w':=by
 go_enter Tryz.func164,Tryz.ntmps164
 go_wp2
 go_ret
 exact⟨rfl,Q.refl _⟩
theorem zhR(b:Nat)(t:TypeId)(w:World)(hb:Blk w b [.slice none 0 0,.slice none 0 0] t) :
  Calls Tryz.prog 105 #[.slice (some ⟨b,0,none⟩) 2 2] w fun e w'=>e=.returned (.slice none 0 0)∧Q w w':=by
 have HG:=LH zpM
 have lb:=hb.lt
 have c0:=hb.cell 0
 have c1:=hb.cell 1
 simp only[zs4,zs5]at c0 c1
 go_enter Tryz.func105,Tryz.ntmps105
 go_wp2
 go_loop [3,11] (fun sz i=>(i=.int .i64 0∧sz=.int .i64 0)∨(i=.int .i64 1∧sz=.int .i64 0)∨(i=.int .i64 2∧sz=.int .i64 0)) (fun _ i=>2 - (intOf i).toNat)
 case atStart=>exact .inl ⟨rfl,rfl⟩
 case round =>
  rcases hrel with⟨rfl,rfl⟩|⟨rfl,rfl⟩|⟨rfl,rfl⟩
  ·go_wp2
   go_round
   case rel=>exact .inr (.inl ⟨rfl,by first | rfl | go_num⟩)
   case measure=>simp[intOf]
  ·go_wp2
   go_round
   case rel=>exact .inr (.inr ⟨rfl,by first | rfl | go_num⟩)
   case measure=>simp[intOf]
  ·go_wp2_with fail
   refine(HG.out _).mono ?_
   rintro e w1⟨rfl,hq1⟩
   clear c0 c1
   go_wp2
   go_loopw [6,27] (fun o i wr=>Q w wr∧o=.slice none 0 0∧(i=.int .i64 0∨i=.int .i64 1∨i=.int .i64 2)) (fun _ i _=>2 - (intOf i).toNat)
   case atStart=>exact⟨hq1,rfl,.inl rfl⟩
   case round =>
    obtain⟨hQ,rfl,rfl | rfl | rfl⟩:=hrel
    ·have hbr:=hb.keep hQ lb
     have c0:=hbr.cell 0
     simp only[List.getElem?_cons_zero]at c0
     have lbr:=hbr.lt
     go_wp2
     try (go_quiet (fail);go_wp2)
     go_roundw
     case rel=>exact⟨hQ,rfl,.inr (.inl rfl)⟩
     case measure=>simp[intOf]
    ·have hbr:=hb.keep hQ lb
     have c1:=hbr.cell 1
     simp only[zs4,zs5]at c1
     have lbr:=hbr.lt
     go_wp2
     try (go_quiet (fail);go_wp2)
     go_roundw
     case rel=>exact⟨hQ,rfl,.inr (.inr rfl)⟩
     case measure=>simp[intOf]
    ·go_wp2
     go_ret
     exact⟨rfl,hQ⟩
theorem zg2(w:World):Calls Tryz.prog 16 #[.slice none 0 0,.slice none 0 0] w fun e w'=>e=.returned (.tuple #[.int .i64 0,.int .i64 0])∧Q w w':=by
 have HS:Hid (∀ w,Calls Tryz.prog 53 #[.slice none 0 0,.slice none 0 0] w fun e w'=>e=.returned (.tuple #[.slice none 0 0,.int .i64 0])∧Q w w'):=LH (fun w=>by
  have HB:=LH (fun w=>zjd w)
  have HC:=LH (fun c w=>zil c w)
  have HCC:=LH (fun b t w hb=>zhR b t w hb)
  have HM:=LH (fun w=>zkd w)
  go_enter Tryz.func53,Tryz.ntmps53
  have hQ0:=Q.refl w
  go_wp2_with fail
  refine(HB.out _).mono ?_
  rintro e w1⟨rfl,hq1⟩
  have hs1:Q w w1:=Q.trans bt hq1
  have hQ1:Q w w1:=Q.trans hQ0 hs1
  go_wp2_with fail
  refine(HC.out _ _).mono ?_
  rintro e w2⟨rfl,hq2⟩
  have hs2:Q w1 w2:=Q.trans bt hq2
  have hQ2:Q w w2:=Q.trans hQ1 hs2
  go_wp2_with fail
  refine(HCC.out _ _ _ (Blk.new w2 [.slice none 0 0,.slice none 0 0] 46)).mono ?_
  rintro e w3⟨rfl,hq3⟩
  have hs3:Q w2 w3:=Q.trans bt hq3
  have hQ3:Q w w3:=Q.trans hQ2 hs3
  go_wp2_with fail
  refine(HM.out _).mono ?_
  rintro e w4⟨rfl,hq4⟩
  have hs4:Q w3 w4:=Q.trans bt hq4
  have hQ4:Q w w4:=Q.trans hQ3 hs4
  go_wp2
  go_ret2
  exact⟨rfl,bt⟩)
 have HG:Hid (∀ w,Calls Tryz.prog 54 #[.slice none 0 0] w fun e w'=>e=.returned (.tuple #[.int .i64 0,.int .i64 0])∧Q w w'):=LH (fun w=>by
  go_enter Tryz.func54,Tryz.ntmps54
  go_wp2
  go_ret2
  exact⟨rfl,Q.refl _⟩)
 go_enter Tryz.func16,Tryz.ntmps16
 have hQ0:=Q.refl w
 go_wp2_with fail
 refine(HS.out _).mono ?_
 rintro e w1⟨rfl,hq1⟩
 have hs1:Q w w1:=Q.trans bt hq1
 have hQ1:Q w w1:=Q.trans hQ0 hs1
 go_wp2_with fail
 refine(HG.out _).mono ?_
 rintro e w2⟨rfl,hq2⟩
 have hs2:Q w1 w2:=Q.trans bt hq2
 have hQ2:Q w w2:=Q.trans hQ1 hs2
 go_wp2
 go_ret2
 exact⟨rfl,bt⟩
end
end Go.Proofs.YtbpghkdadajomaaGreatDoor
