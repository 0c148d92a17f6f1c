/-
  Walks of package front: the fronts of any plan.; Walks of package front: Check, start, Distance.; Walks of package front: the plane of a front; of package bevel: a face.; Walks of package joint: what is known of a rafter at an eaves of a plan.; Walks of package joint: Birdsmouth, Deepest, of whatever rafter at an eaves.; Walks of package bevel: the plane of a side's front.
-/
import Derived.Test.YtagkadlaeeoblaaGreatDoorBM22
import Derived.Test.YtagkadlaeeoblaaGreatDoorBM21
import Derived.Test.YtagkadlaeeoblaaGreatDoorBM15
import Derived.Laws.CopyRow
import Derived.Laws.CopyOwn
set_option maxRecDepth 100000
set_option maxHeartbeats 4000000
namespace Go.Proofs.YtagkadlaeeoblaaGreatDoor
section
open Go.RowKit Go.Shelf Kp
attribute [local go_sem] Oper.semAt_some
theorem zqx:(Tryz.prog.info? 155).map (fun i=>(i.zero,i.size,i.bytes))=some (some (.agg #[.bool false,.int .i64 0,.int .i64 0,.string ⟨#[]⟩,.string ⟨#[]⟩]),5,56):=by kernel_rfl
def zt2(r:List Sd)(i:Nat):Fr:=zjv (zcG r i) (zcG r ((i+1) % r.length))
def frN(r:List Sd)(k:Nat):List Value:=(List.range k).flatMap fun i=>frC (zt2 r i)
theorem zrL(r:List Sd)(k:Nat):frN r (k+1)=frN r k++frC (zt2 r k):=by unfold frN;rw[List.range_succ,List.flatMap_append];simp
def frR(R:List (List Sd))(k:Nat):List Value:=rowOf frC (zb6 (R.take k))
theorem zsZ(r:List Sd):frN r r.length=rowOf frC (znV r):=by
 unfold frN rowOf znV
 rw[List.flatMap_map]
 rfl
theorem zrK{R:List (List Sd)}{k:Nat}(h:k<R.length):frR R (k+1)=frR R k++frN (ringAt R k) (ringAt R k).length:=by
 rw[zsZ]
 unfold frR
 rw[List.take_succ_eq_append_getElem h,zaJ h]
 unfold zb6 rowOf
 rw[List.flatMap_append,List.flatMap_append]
 simp
theorem zsY(R:List (List Sd)):frR R R.length=rowOf frC (zb6 R):=by unfold frR;rw[List.take_length]
theorem zqJ(R:List (List Sd))(h:zdE R=0)(hn:R.length≤1000)(v:Value)(w:World)(hE:Env w)(hv:zjG w v R) :
  Calls Tryz.prog 82 #[.agg #[v]] w fun e w'=>∃ v',e=.returned (.tuple #[v',.int .i64 0])∧w'.ownsRow w.heap.size 155 5 v' R.flatten.length (rowOf frC (zb6 R))∧Q w w':=by
 have ok:=zk2 h
 have hle:=ok.le
 rw[← zsY,count_flatten,← zoi]
 have HK:Hid (∀ W,Q w W→CR 80 #[.agg #[v]] W (.int .i64 0)):=LH (fun W hq=>by
  have:=zhc R hn (by omega) v W (hv.keep hq)
  rw[h]at this
  exact this)
 have HRI:Hid (∀ W,Q w W→∃ a cap,v=.slice a R.length cap∧∀ i,i<R.length→∃ b o a2 c2,a=some ⟨b,o,none⟩∧W.cell? ⟨b,o+i,none⟩=some (.slice a2 (ringAt R i).length c2)∧zcq W a2 (ringAt R i)∧∀ k∈zbY a2,k<W.heap.size):=LH (fun W hq=>(hv.keep hq).ring (fun r hr=>by have:=ok.four r hr;omega))
 have HRW:Hid (∀ i,i<R.length→0<(ringAt R i).length∧(ringAt R i).length≤24∧∀ s∈ringAt R i,Rgd s):=LH (fun i hi=>by
  have hm:ringAt R i∈R:=by rw[zaJ hi];exact List.getElem_mem hi
  have h4:=ok.four _ hm
  exact⟨by omega,Nat.le_trans (zp4 hm) hle,fun s hs=>ok.rg s (List.mem_flatten.2 ⟨_,hm,hs⟩)⟩)
 have HS1:Hid (∀ k,k<R.length→zlv R (k+1)=zlv R k+(ringAt R k).length):=LH (fun k hk=>zmQ hk)
 have HSl:Hid (∀ k,zlv R k≤24):=LH (fun k=>Nat.le_trans (zq0 R k) hle)
 have HF1:Hid (∀ k,k<R.length→frR R (k+1)=frR R k++frN (ringAt R k) (ringAt R k).length):=LH (fun k hk=>zrK hk)
 obtain⟨a0,cap0,rfl,-⟩:=id hv
 clear ok h hv hle
 have hRz:(R.length:Int)≤1000:=by omega
 obtain⟨c0,ci,cz0,cz1,cz2⟩:=zck zqx
 have B:=Blk.new w [.slice a0 R.length cap0] 53
 have hq1:Q w (w.alloc (.cells [Value.slice a0 R.length cap0].toArray 53)):=(Below.refl _ w).alloc (Nat.le_refl _) _
 have k0:=B.cell
 go_enter Tryz.func82,Tryz.ntmps82
 go_wp2_with fail
 refine cx (HK.out _ hq1) fun w2 hq=>?_
 replace B:=B.keep hq B.lt
 replace k0:=B.cell
 have hq2:=Q.trans hq1 hq
 have hsz:w.heap.size+1≤w2.heap.size:=by have:=hq.size;simpa using this
 clear hq hq1 HK
 go_wp2
 go_loopw [15,4] (fun i o wr=>∃ k:Nat,k≤R.length∧i=.int .i64 k∧wr.ownsRow w.heap.size 155 5 o (zlv R k) (frR R k)∧Q w wr∧w.heap.size+1≤wr.heap.size) (fun i _ _=>R.length - (intOf i).toNat)
 case atStart=>exact⟨0,by omega,rfl,World.ownsRow_nil _ _ _ _,hq2,hsz⟩
 case round =>
  obtain⟨g,hg,rfl,howg,hQg,hszg⟩:=hrel
  by_cases hgl:g<R.length
  ·obtain⟨a',cap',he,hcg⟩:=HRI.out w (Q.refl w)
   obtain⟨b1,o1,a2,c2,ha,hcell,hrow,-⟩:=hcg g hgl
   injection he with he1 he2 he3
   subst he1 he3
   subst ha
   obtain⟨hl0,hl24,hrg⟩:=HRW.out g hgl
   replace hcell:=za hQg hcell
   have HR:=LH hrow
   have HRG:=LH hrg
   have HSg:=LH (HS1.out g hgl)
   have HFg:=LH (HF1.out g hgl)
   have hcg24:=HSl.out (g+1)
   rw[HSg.out]at hcg24
   have hlz:((ringAt R g).length:Int)≤24:=by omega
   have hz1:(0:Int)<(ringAt R g).length:=by omega
   have hgz:(g:Int)<R.length:=by omega
   have hg0:(0:Int)≤g:=by omega
   obtain⟨P,hP⟩:∃ P,frR R g=P:=⟨_,rfl⟩
   obtain⟨p,hp⟩:∃ p,zlv R g=p:=⟨_,rfl⟩
   rw[hP]at howg HFg
   rw[hp]at howg HSg hcg24
   have HP0:Hid (P=P++frN (ringAt R g) 0):=LH (by unfold frN;simp)
   clear hP hp hcg hrow hrg
   generalize ringAt R g=r at *
   generalize u4=og at *
   generalize wr=WG at *
   go_wp2
   go_loopw [21,4] (fun i o wr=>∃ k:Nat,k≤r.length∧i=.int .i64 k∧wr.ownsRow w.heap.size 155 5 o (p+k) (P++frN r k)∧Q w wr∧w.heap.size+1≤wr.heap.size) (fun i _ _=>r.length - (intOf i).toNat)
   case atStart=>exact⟨0,by omega,rfl,by rw[← HP0.out];exact howg,hQg,hszg⟩
   case round =>
    obtain⟨k,hk,rfl,hown,hQ,hsz'⟩:=hrel
    by_cases hlt:k<r.length
    ·obtain⟨b,o,rfl,hc⟩:=(HR.out.q hQ) k hlt
     obtain⟨b',o',he,hd⟩:=(HR.out.q hQ) ((k+1) % r.length) (Nat.mod_lt _ hl0)
     injection he with he
     injection he with he1 he2
     subst he1 he2
     obtain⟨q,hq'⟩:∃ q,(k+1) % r.length=q:=⟨_,rfl⟩
     have hqn:q<r.length:=by rw[← hq'];exact Nat.mod_lt _ hl0
     have e1:=Go.IntWalk.i64_in ((k:Int)+1) (by omega)
     have e2:((k:Int)+1).tmod (r.length:Int)=(q:Int):=by
      rw[Int.tmod_eq_emod_of_nonneg (by omega),show ((k:Int)+1)=((k+1:Nat):Int) by omega,← hq'];exact(Int.natCast_emod _ _).symm
     have hkz:(k:Int)<r.length:=by omega
     have hk0:(0:Int)≤k:=by omega
     have hqz:(q:Int)<r.length:=by omega
     have hq0:(0:Int)≤q:=by omega
     have hnz:¬ r=[]:=by
      intro h
      rw[h]at hl0
      simp at hl0
     have HF:=LH (fun W hW=>zrJ (zcG r k) (zcG r q) (HRG.out _ (znU hlt)) W hW)
     have HS:Hid (P++frN r (k+1)=P++(frN r k++frC (zjv (zcG r k) (zcG r q)))):=LH (by rw[zrL,zt2,hq'])
     rw[hq']at hd
     generalize zjv (zcG r k) (zcG r q)=f at *
     generalize zcG r k=s at *
     generalize zcG r q=t at *
     unfold frC at HF HS
     unfold sdC at hc hd HF
     have d0:=hc 0 _ rfl
     have d1:=hc 1 _ rfl
     have d2:=hc 2 _ rfl
     have d3:=hc 3 _ rfl
     have d4:=hc 4 _ rfl
     have d5:=hc 5 _ rfl
     have d6:=hc 6 _ rfl
     have n0:=hd 0 _ rfl
     have n1:=hd 1 _ rfl
     have n2:=hd 2 _ rfl
     have n3:=hd 3 _ rfl
     have n4:=hd 4 _ rfl
     have n5:=hd 5 _ rfl
     have n6:=hd 6 _ rfl
     rw[Nat.add_zero]at d0 n0
     clear hc hd
     have M:=Blk.new wr [.int .i64 s.x,.int .i64 s.y,.int .i64 s.rise,.int .i64 s.run,.bool s.gable,.int .i64 s.plate,.int .i64 s.over] 90
     have hqa:Q wr (wr.alloc (.cells [Value.int .i64 s.x,.int .i64 s.y,.int .i64 s.rise,.int .i64 s.run,.bool s.gable,.int .i64 s.plate,.int .i64 s.over].toArray 90)):=(Below.refl _ wr).alloc (Nat.le_refl _) _
     obtain⟨W1,hW1⟩:∃ W1,wr.alloc (.cells #[.int .i64 s.x,.int .i64 s.y,.int .i64 s.rise,.int .i64 s.run,.bool s.gable,.int .i64 s.plate,.int .i64 s.over] 90)=W1:=⟨_,rfl⟩
     have hW1':wr.alloc (.cells [Value.int .i64 s.x,.int .i64 s.y,.int .i64 s.rise,.int .i64 s.run,.bool s.gable,.int .i64 s.plate,.int .i64 s.over].toArray 90)=W1:=hW1
     rw[hW1']at M hqa
     clear hW1'
     go_wp2_with fail
     try rw[hW1]
     clear hW1
     have hEd:Env W1.drew:=(hE.ofQ (Q.trans hQ (Q.trans hqa (Below.drew (Q.refl W1)))))
     have hqd:Q wr W1.drew:=Q.trans hqa (Below.drew (Q.refl W1))
     have m0:=M.drew.cell 0
     have m1:=M.drew.cell 1
     have m2:=M.drew.cell 2
     have m3:=M.drew.cell 3
     have m4:=M.drew.cell 4
     have m5:=M.drew.cell 5
     have m6:=M.drew.cell 6
     simp only[zs4,zs5]at m0 m1 m2 m3 m4 m5 m6
     replace n0:=za hqd n0
     replace n1:=za hqd n1
     replace n2:=za hqd n2
     replace n3:=za hqd n3
     replace n4:=za hqd n4
     replace n5:=za hqd n5
     replace n6:=za hqd n6
     clear d0 d1 d2 d3 d4 d5 d6
     refine RF.zm (ρ:=zph W1.drew.heap.size) 12 (by kernel_rfl) (by kernel_rfl) rfl ?_
     refine RF.svp 0 ?_
     refine RF.svq 1 rfl (by intro w' hq;have hc0:=za (hq (Nat.le_refl _)) m0;have hc1:=za (hq (Nat.le_refl _)) m1;have hc2:=za (hq (Nat.le_refl _)) m2;have hc3:=za (hq (Nat.le_refl _)) m3;have hc4:=za (hq (Nat.le_refl _)) m4;have hc5:=za (hq (Nat.le_refl _)) m5;have hc6:=za (hq (Nat.le_refl _)) m6;go_simp;try with_reducible rfl) ?_
     refine RF.svp 2 ?_
     refine RF.svp 3 ?_
     refine RF.svp 4 ?_
     refine RF.svp 5 ?_
     refine RF.svp 6 ?_
     refine RF.svp 7 ?_
     refine RF.svp 8 ?_
     refine RF.svq 9 rfl (by intro w' hq;have hc0:=za (hq (Nat.le_refl _)) n0;have hc1:=za (hq (Nat.le_refl _)) n1;have hc2:=za (hq (Nat.le_refl _)) n2;have hc3:=za (hq (Nat.le_refl _)) n3;have hc4:=za (hq (Nat.le_refl _)) n4;have hc5:=za (hq (Nat.le_refl _)) n5;have hc6:=za (hq (Nat.le_refl _)) n6;go_simp;try with_reducible rfl) ?_
     refine RF.ze (i:=10) (v:=_) rfl rfl (by kernel_rfl) (by kernel_rfl) (fun _ _ _ h=>h) (by rfl) ?_ (fun w' hq=>HF.out w' (hEd.ofQ (hq (Nat.le_refl _)))) ?_
     ·(intro w' hq;go_simp;try with_reducible rfl)
     simp only[Act.put,zs1,zs2,zs3]
     refine RF.zaX (i:=11) (fun w'=>.slice (some ⟨w'.heap.size,0,none⟩) 1 1) (.cells #[.bool f.up,.int .i64 f.coord,.int .i64 f.dir,.string ⟨(zh f.speed).toArray⟩,.string ⟨(zh f.start).toArray⟩] 155) rfl rfl (by kernel_rfl) (by rfl) (fun w' hq=>by go_simp;try with_reducible rfl) (fun w3 hq3=>?_)
     simp only[Act.put,zs1,zs2,zs3]
     refine RF.zi (by kernel_rfl) (fun w5 hq5=>?_)
     simp only[List.drop_succ_cons,List.drop_zero]
     have T:=(Blk.new w3 [.bool f.up,.int .i64 f.coord,.int .i64 f.dir,.string ⟨(zh f.speed).toArray⟩,.string ⟨(zh f.start).toArray⟩] 155).keep hq5 (by simp)
     have hq35:Q wr w5:=Q.trans hqd (Q.trans hq3 (Q.trans ((Below.refl _ w3).alloc (Nat.le_refl _) _) hq5))
     have hown5:=zn hown hq35
     have hQ5:=Q.trans hQ hq35
     have hsz5:=Nat.le_trans hsz' hq35.size
     clear hq3 hq5 m0 m1 m2 m3 m4 m5 m6 n0 n1 n2 n3 n4 n5 n6 HF M hown hqa hqd hEd
     generalize w3.heap.size=t3 at *
     go_wp2_with (at_builtin;refine wpList_append_own_at _ rfl (.tmp 26) (.tmp 37) 150 rfl w.heap.size 155 c0 _ 5 56 Tryz.underlying150 ci cz0 cz1 cz2 rfl (by decide) u4 (p+k) (P++frN r k) rfl hown5 ⟨t3,0,none⟩ 1 1 [.bool f.up,.int .i64 f.coord,.int .i64 f.dir,.string ⟨(zh f.speed).toArray⟩,.string ⟨(zh f.start).toArray⟩] rfl rfl (fun j z hj=>by rw[Addr.add_lit,Nat.zero_add];exact(T.cell j).trans hj) (by
      intro z hz
      simp only[List.mem_cons,List.not_mem_nil,or_false]at hz
      rcases hz with rfl | rfl | rfl | rfl | rfl <;> rfl) (by unfold maxLen;omega) (by omega) (by omega) ?_)
     intro v9 w9 hown9 hgrow9 _ _
     have hQ9:Q w w9:=hQ5.grown hgrow9 (by omega) (fun j hj=>(hown5.lt j hj).1)
     have hsz9:=Nat.le_trans hsz5 hgrow9.size
     rw[← HS.out]at hown9
     clear hown5 hgrow9 T hq35 HS
     go_wp2
     go_roundw
     case rel=>exact⟨k+1,by omega,by go_num,hown9,hQ9,hsz9⟩
     case measure=>simp[intOf];omega
    ·obtain rfl:k=r.length:=by omega
     go_wp2
     go_roundw
     case rel=>exact⟨g+1,by omega,by go_num,by rw[HSg.out,HFg.out];exact hown,hQ,hsz'⟩
     case measure=>simp[intOf];omega
  ·obtain rfl:g=R.length:=by omega
   go_wp2
   go_ret2
   exact⟨_,rfl,howg,hQg⟩
end
section
open Go.RowKit Go.Shelf Kp
attribute [local go_sem] Oper.semAt_some
theorem zny(f:Fr)(h:FrOk f)(w:World)(hE:Env w) :
  CR 150 #[.agg (frC f).toArray] w (.int .i64 0):=by
 have HS:=LH (fun w hw=>zN f.speed (h.s.zaj (by decide)) w hw)
 have HT:=LH (fun w hw=>zN f.start (h.p.zaj (by decide)) w hw)
 have HU:=LH (fun w hw=>zhQ f.speed (h.s.mono (by decide)) w hw)
 have HV:=LH (fun w hw=>zhQ f.start (h.p.mono (by decide)) w hw)
 have HP:=LH (fun w=>zY (zh f.speed) w)
 have hneg:decide ((zh f.speed).head? = some 45)=false:=by rw[decide_eq_false_iff_not,zgb];have:=h.s0;omega
 rw[hneg]at HP
 have hd:=h.d
 have h0:=h.c0
 have h1:=h.c1
 clear h hneg
 unfold frC
 generalize zh f.speed=S at *
 generalize zh f.start=T at *
 obtain⟨up,co,dr,sp,st⟩:=f
 simp only at h0 h1 hd ⊢
 have e1:decide (co<0)=false:=by rw[decide_eq_false_iff_not];omega
 have e2:decide ((65536:Int)<co)=false:=by rw[decide_eq_false_iff_not];omega
 have B:=(Blk.new w [.bool up,.int .i64 co,.int .i64 dr,.string ⟨S.toArray⟩,.string ⟨T.toArray⟩] 155).alloc (.cells #[.string ⟨S.toArray⟩,.string ⟨T.toArray⟩] 23)
 have N:=Blk.new (w.alloc (.cells #[.bool up,.int .i64 co,.int .i64 dr,.string ⟨S.toArray⟩,.string ⟨T.toArray⟩] 155)) [.string ⟨S.toArray⟩,.string ⟨T.toArray⟩] 23
 rw[World.size_alloc]at N
 obtain⟨W0,hW0⟩:∃ W0,(w.alloc (.cells #[.bool up,.int .i64 co,.int .i64 dr,.string ⟨S.toArray⟩,.string ⟨T.toArray⟩] 155)).alloc (.cells #[.string ⟨S.toArray⟩,.string ⟨T.toArray⟩] 23)=W0:=⟨_,rfl⟩
 have hq0:Q w W0:=by rw[← hW0];exact bt
 have hEw:=hE.ofQ hq0
 rw[hW0]at B N
 clear hE
 have hE:=hEw
 clear hEw
 rcases hd with rfl | rfl
 all_goals
  have hQ0:=Q.refl W0
  replace b0:=B.cell
  replace lB:=B.lt
  replace n0:=N.cell
  replace lN:=N.lt
  go_enter Tryz.func150,Tryz.ntmps150
  go_wp2
  refine wp_loop_rounds 3 ?_
  rw[rounds_succ]
  clear hW0
  go_wp2_with fail
  refine cx (HS.out _ (hE.ofQ bt)) fun Y1 hq1=>?_
  have hs1:Q W0 Y1:=Q.trans bt hq1
  have hQ1:Q W0 Y1:=Q.trans hQ0 hs1
  replace B:=B.keep hs1 B.lt
  replace b0:=B.cell
  replace lB:=B.lt
  replace N:=N.keep hs1 N.lt
  replace n0:=N.cell
  replace lN:=N.lt
  go_wp2
  rw[rounds_succ]
  go_wp2_with fail
  refine cx (HT.out _ (hE.ofQ bt)) fun Y2 hq2=>?_
  have hs2:Q Y1 Y2:=Q.trans bt hq2
  have hQ2:Q W0 Y2:=Q.trans hQ1 hs2
  replace B:=B.keep hs2 B.lt
  replace b0:=B.cell
  replace lB:=B.lt
  replace N:=N.keep hs2 N.lt
  replace n0:=N.cell
  replace lN:=N.lt
  go_wp2
  rw[rounds_succ]
  clear N lN n0
  obtain⟨W2,hW2⟩:∃ W2,Y2.alloc (.cells #[.string ⟨S.toArray⟩,.string ⟨T.toArray⟩] 23)=W2:=⟨_,rfl⟩
  have N:=Blk.new Y2 [.string ⟨S.toArray⟩,.string ⟨T.toArray⟩] 23
  have N:Blk W2 Y2.heap.size [.string ⟨S.toArray⟩,.string ⟨T.toArray⟩] 23:=by rw[← hW2];exact N
  have hqW:Q Y2 W2:=by rw[← hW2];exact bt
  have hE2:=hE.ofQ (Q.trans hQ2 hqW)
  have hQW:=Q.trans hQ2 hqW
  have bb3:=B.cell
  replace B:=B.keep hqW B.lt
  clear hE
  have hE:=hE2
  clear hE2
  have hQ0:=Q.refl W2
  replace b0:=B.cell
  replace lB:=B.lt
  replace n0:=N.cell
  replace lN:=N.lt
  go_wp2
  refine wp_loop_rounds 3 ?_
  rw[rounds_succ]
  clear hW2
  go_wp2_with fail
  refine cx (HU.out _ (hE.ofQ bt)) fun Z1 hq1=>?_
  have hs1:Q W2 Z1:=Q.trans bt hq1
  have hQ1:Q W2 Z1:=Q.trans hQ0 hs1
  replace B:=B.keep hs1 B.lt
  replace b0:=B.cell
  replace lB:=B.lt
  replace N:=N.keep hs1 N.lt
  replace n0:=N.cell
  replace lN:=N.lt
  go_wp2
  rw[rounds_succ]
  go_wp2_with fail
  refine cx (HV.out _ (hE.ofQ bt)) fun Z2 hq2=>?_
  have hs2:Q Z1 Z2:=Q.trans bt hq2
  have hQ2:Q W2 Z2:=Q.trans hQ1 hs2
  replace B:=B.keep hs2 B.lt
  replace b0:=B.cell
  replace lB:=B.lt
  replace N:=N.keep hs2 N.lt
  replace n0:=N.cell
  replace lN:=N.lt
  go_wp2
  rw[rounds_succ]
  go_wp2_with fail
  refine(HP.out _).mono ?_
  rintro e w9⟨rfl,rfl⟩
  have hQe:Q w Z2:=Q.trans hq0 (Q.trans hQW hQ2)
  go_wp2
  go_ret
  exact⟨rfl,hQe⟩
end
section
open Go.RowKit Go.Shelf Kp
open Go.Lib (decDigits)
attribute [local go_sem] Oper.semAt_some
theorem zqI{m n:Nat}(x y:Rat)(hx:Bd m x)(hy:Bd n y)(h0:y.num≠0)(h:m+n≤300)(w:World)(hE:Env w) :
  CR 151 #[.string ⟨(zh x).toArray⟩,.string ⟨(zh y).toArray⟩] w (.string ⟨(zh (x / y)).toArray⟩):=by
 have HD:=LH (fun w hw=>zcf x y hx hy h0 h w hw)
 generalize zh (x / y)=R at *
 generalize zh x=X at *
 generalize zh y=Y at *
 go_enter Tryz.func151,Tryz.ntmps151
 have hQ0:=Q.refl w
 go_wp2_with fail
 refine cx (HD.out _ (hE.ofQ bt)) fun w1 hq1=>?_
 have hs1:Q w w1:=Q.trans bt hq1
 have hQ1:Q w w1:=Q.trans hQ0 hs1
 go_wp2
 go_ret
 exact⟨rfl,bt⟩
def zjQ(f:Fr):Rat:=(f.dir:Rat) / f.speed
def zr7(f:Fr):Rat:=f.start - zjQ f*(f.coord:Rat)
def zrb(f:Fr):List Value:=if f.up then [.string ⟨(zh (zjQ f)).toArray⟩,.string ⟨#[48]⟩,.string ⟨(zh (zr7 f)).toArray⟩]else [.string ⟨#[48]⟩,.string ⟨(zh (zjQ f)).toArray⟩,.string ⟨(zh (zr7 f)).toArray⟩]
theorem zfC{W:World}{b:Nat}{x y z:Value}(h:Blk W b [x,y,z] 86)(fn:Func)(m k:Nat)(hf:fn.results=#[.cell m 86,.tmp k])(tmps:Array Value)(u:Value)(hp:tmps.getD m undef=.pointer (some ⟨b,0,none⟩))(hk:tmps.getD k undef=u) :
  (results fn tmps).run Tryz.prog W=.ok (.tuple #[.agg #[x,y,z],u]) W:=by
 have c0:=h.cell
 simp only[Array.getD_eq_getD_getElem?]at hp hk
 simp[results,hf,go_sem,hp,hk,c0]
theorem znx(f:Fr)(h:FrOk f)(hs:f.speed≠0)(w:World)(hE:Env w) :
  CR 83 #[.agg (frC f).toArray] w (.tuple #[.agg (zrb f).toArray,.int .i64 0]):=by
 have HC:=LH (fun w hw=>zny f h w hw)
 have n0:f.speed.num≠0:=fun e=>hs (Rat.num_eq_zero.1 e)
 have bd:Bd 5 (f.dir:Rat):=zft (by rcases h.d with e | e <;> rw[e] <;> decide) (by decide)
 have bc:Bd 5 (f.coord:Rat):=zft (by have:=h.c0;have:=h.c1;omega) (by decide)
 have br:Bd 10 (zjQ f):=bd.quot h.s (by have:=h.s0;omega)
 have HW1:=LH (fun w hw=>zju f.dir (by rcases h.d with e | e <;> rw[e] <;> decide) w hw)
 have HW2:=LH (fun w hw=>zju f.coord (by have:=h.c0;have:=h.c1;omega) w hw)
 have HD:=LH (fun w hw=>zqI (f.dir:Rat) f.speed bd h.s n0 (by decide) w hw)
 have HM:=LH (fun w hw=>zqH (zjQ f) (f.coord:Rat) br bc (by decide) w hw)
 have HS:=LH (fun w hw=>zqG f.start (zjQ f*(f.coord:Rat)) h.p (br.mul bc) (by decide) w hw)
 rw[show (f.dir:Rat) / f.speed=zjQ f from rfl]at HD
 rw[show f.start - zjQ f*(f.coord:Rat)=zr7 f from rfl]at HS
 have hz:(zh f.speed == [48])=false:=by
  rw[beq_eq_false_iff_ne,← zaN];exact fun e=>hs (zaY e)
 clear h hs n0 bd bc br
 unfold zrb frC at *
 generalize zh (zjQ f*(f.coord:Rat))=RC at *
 generalize zh (zr7 f)=BB at *
 generalize zh (zjQ f)=RR at *
 generalize zh (f.dir:Rat)=DD at *
 generalize zh (f.coord:Rat)=CC at *
 generalize zh f.speed=SS at *
 generalize zh f.start=ST at *
 obtain⟨up,co,di,sp,st⟩:=f
 simp only at *
 go_enter Tryz.func83,Tryz.ntmps83
 obtain⟨W0,hW0⟩:∃ W0,(w.alloc (.cells #[.bool up,.int .i64 co,.int .i64 di,.string ⟨SS.toArray⟩,.string ⟨ST.toArray⟩] 155)).alloc (.cells #[.string ⟨#[]⟩,.string ⟨#[]⟩,.string ⟨#[]⟩] 86)=W0:=⟨_,rfl⟩
 have hq0:Q w W0:=by rw[← hW0];exact bt
 have BF:Blk W0 w.heap.size [.bool up,.int .i64 co,.int .i64 di,.string ⟨SS.toArray⟩,.string ⟨ST.toArray⟩] 155:=by rw[← hW0];exact(Blk.new w _ _).alloc _
 have BZ:Blk W0 (w.heap.size+1) [.string ⟨#[]⟩,.string ⟨#[]⟩,.string ⟨#[]⟩] 86:=by rw[← hW0];exact Blk.new1 w _ _ _
 have hE0:=hE.ofQ hq0
 have hQ0:=Q.refl W0
 replace f0:=BF.cell 0
 replace f1:=BF.cell 1
 replace f2:=BF.cell 2
 replace f3:=BF.cell 3
 replace f4:=BF.cell 4
 simp only[zs4,zs5]at f0 f1 f2 f3 f4
 replace lBF:=BF.lt
 replace z0:=BZ.cell
 replace lBZ:=BZ.lt
 go_wp2_with fail
 refine cx (HC.out _ hE0) fun G1 hq1=>?_
 have hs1:Q W0 G1:=Q.trans bt hq1
 have hQ1:Q W0 G1:=Q.trans hQ0 hs1
 replace BF:=BF.keep hs1 BF.lt
 replace f0:=BF.cell 0
 replace f1:=BF.cell 1
 replace f2:=BF.cell 2
 replace f3:=BF.cell 3
 replace f4:=BF.cell 4
 simp only[zs4,zs5]at f0 f1 f2 f3 f4
 replace lBF:=BF.lt
 replace BZ:=BZ.keep hs1 BZ.lt
 replace z0:=BZ.cell
 replace lBZ:=BZ.lt
 clear hW0 HC
 go_wp2_with fail
 have hEd:Env G1.drew:=hE0.ofQ (Q.trans hQ1 bt)
 refine zm 6 rfl (by kernel_rfl) rfl ?_
 refine svp 0 ?_
 refine svq 1 rfl (by intro w' hq;have hc0:=za hq f2;go_simp;try with_reducible rfl) ?_
 refine ze (i:=2) (v:=_) rfl rfl (by kernel_rfl) (by kernel_rfl) (fun _ _ _ h=>h) (by rfl) ?_ (fun w' hq=>HW1.out w' (hEd.ofQ hq)) ?_
 ·(intro w' hq;go_simp;try with_reducible rfl)
 simp only[Act.put,zs1,zs2,zs3]
 refine svp 3 ?_
 refine svq 4 rfl (by intro w' hq;have hc0:=za hq f3;go_simp;try with_reducible rfl) ?_
 refine ze (i:=5) (v:=_) rfl rfl (by kernel_rfl) (by kernel_rfl) (fun _ _ _ h=>h) (by rfl) ?_ (fun w' hq=>HD.out w' (hEd.ofQ hq)) ?_
 ·(intro w' hq;go_simp;try with_reducible rfl)
 simp only[Act.put,zs1,zs2,zs3]
 refine zi (by kernel_rfl) (fun w3 hq3=>?_)
 simp only[List.drop_succ_cons,List.drop_zero]
 have hq4:Q W0 w3:=Q.trans hQ1 (Q.trans (Below.drew (Q.refl G1)) hq3)
 replace BF:=BF.keep (Q.trans (Below.drew (Q.refl G1)) hq3) BF.lt
 replace BZ:=BZ.keep (Q.trans (Below.drew (Q.refl G1)) hq3) BZ.lt
 clear hq3 hEd HW1 HD hz
 have hQ0:=Q.refl w3
 replace f0:=BF.cell 0
 replace f1:=BF.cell 1
 replace f2:=BF.cell 2
 replace f3:=BF.cell 3
 replace f4:=BF.cell 4
 simp only[zs4,zs5]at f0 f1 f2 f3 f4
 replace lBF:=BF.lt
 replace z0:=BZ.cell
 replace lBZ:=BZ.lt
 go_wp2_with fail
 have hEd:Env w3.drew:=hE0.ofQ (Q.trans hq4 bt)
 refine zm 11 rfl (by kernel_rfl) rfl ?_
 refine svp 0 ?_
 refine svp 1 ?_
 refine svq 2 rfl (by intro w' hq;have hc0:=za hq f4;go_simp;try with_reducible rfl) ?_
 refine svp 3 ?_
 refine svp 4 ?_
 refine svq 5 rfl (by intro w' hq;have hc0:=za hq f1;go_simp;try with_reducible rfl) ?_
 refine ze (i:=6) (v:=_) rfl rfl (by kernel_rfl) (by kernel_rfl) (fun _ _ _ h=>h) (by rfl) ?_ (fun w' hq=>HW2.out w' (hEd.ofQ hq)) ?_
 ·(intro w' hq;go_simp;try with_reducible rfl)
 simp only[Act.put,zs1,zs2,zs3]
 refine ze (i:=7) (v:=_) rfl rfl (by kernel_rfl) (by kernel_rfl) (fun _ _ _ h=>h) (by rfl) ?_ (fun w' hq=>HM.out w' (hEd.ofQ hq)) ?_
 ·(intro w' hq;go_simp;try with_reducible rfl)
 simp only[Act.put,zs1,zs2,zs3]
 refine ze (i:=8) (v:=_) rfl rfl (by kernel_rfl) (by kernel_rfl) (fun _ _ _ h=>h) (by rfl) ?_ (fun w' hq=>HS.out w' (hEd.ofQ hq)) ?_
 ·(intro w' hq;go_simp;try with_reducible rfl)
 simp only[Act.put,zs1,zs2,zs3]
 refine svp 9 ?_
 refine zae (i:=10) (.cells #[.string ⟨#[]⟩,.string ⟨#[]⟩,.string ⟨#[]⟩] 86) rfl rfl (by kernel_rfl) (by rfl) (fun w' hq=>by go_simp;try with_reducible rfl) (fun w6 hq6=>?_)
 simp only[Act.put,zs1,zs2,zs3]
 have BP:=Blk.new w6 [.string ⟨#[]⟩,.string ⟨#[]⟩,.string ⟨#[]⟩] 86
 refine zi (by kernel_rfl) (fun w7 hq7=>?_)
 simp only[List.drop_succ_cons,List.drop_zero]
 have hqc:Q w3 w7:=Q.trans (Below.drew (Q.refl w3)) (Q.trans hq6 (Q.trans ((Below.refl _ w6).alloc (Nat.le_refl _) _) hq7))
 have hq6':Q w3 w6:=Q.trans (Below.drew (Q.refl w3)) hq6
 have lz6:w.heap.size+1<w6.heap.size:=Nat.lt_of_lt_of_le BZ.lt hq6'.size
 have lf6:w.heap.size<w6.heap.size:=by omega
 have P:=BP.keep hq7 (by simp)
 have hw7:Q w w7:=Q.trans hq0 (Q.trans hq4 hqc)
 replace BF:=BF.keep hqc BF.lt
 replace BZ:=BZ.keep hqc BZ.lt
 generalize w6.heap.size=p at *
 clear hq6 hq7 hqc hq6' BP hEd HW2 HM HS hQ0 hE0 hq0 hq1 hs1 hQ1 hq4
 have hnp:p≠w.heap.size+1:=by omega
 have hnf:p≠w.heap.size:=by omega
 obtain⟨V,hV⟩:∃ V,w7.setRow p ([.string ⟨#[48]⟩,.string ⟨RR.toArray⟩,.string ⟨BB.toArray⟩]:List Value).toArray=V:=⟨_,rfl⟩
 have PV:Blk V p [.string ⟨#[48]⟩,.string ⟨RR.toArray⟩,.string ⟨BB.toArray⟩] 86:=by rw[← hV];exact setRow_heap _ _ _ _ _ _ P
 have FV:=BF.setRow (fun e=>hnf e.symm) ([.string ⟨#[48]⟩,.string ⟨RR.toArray⟩,.string ⟨BB.toArray⟩]:List Value).toArray
 have ZV:=BZ.setRow (fun e=>hnp e.symm) ([.string ⟨#[48]⟩,.string ⟨RR.toArray⟩,.string ⟨BB.toArray⟩]:List Value).toArray
 rw[hV]at FV ZV
 have hwV:Q w V:=by rw[← hV];exact below_setRow hw7 (by omega) _
 have hQ0:=Q.refl V
 replace f0:=FV.cell 0
 replace f1:=FV.cell 1
 replace f2:=FV.cell 2
 replace f3:=FV.cell 3
 replace f4:=FV.cell 4
 simp only[zs4,zs5]at f0 f1 f2 f3 f4
 replace lFV:=FV.lt
 replace z0:=ZV.cell
 replace lZV:=ZV.lt
 replace p0:=PV.cell
 replace lPV:=PV.lt
 have pf:=PV.frozen
 have zf:=ZV.frozen
 clear BF BZ f0 f1 f2 f3 f4 z0
 have ff:=FV.cell
 have zz:=ZV.cell
 cases up
 ·go_wp2_with (refine zcs rfl 86 (.tmp 5) (.tmp 29) rfl p 0 P [.string ⟨#[48]⟩,.string ⟨RR.toArray⟩,.string ⟨BB.toArray⟩] [.string ⟨#[48]⟩,.string ⟨RR.toArray⟩,.string ⟨BB.toArray⟩] rfl rfl (by simp) rfl (by kernel_rfl) (by simp[Value.oneCell']) ?_;rw[hV])
  have R:=((ZV.set 0 (.string ⟨#[48]⟩)).set 1 (.string ⟨RR.toArray⟩)).set 2 (.string ⟨BB.toArray⟩)
  simp only[List.set_cons_zero,List.set_cons_succ]at R
  have hQ:=((hwV.setCell (p:=⟨w.heap.size+1,0,none⟩) (by simp) (.string ⟨#[48]⟩)).setCell (p:=⟨w.heap.size+1,1,none⟩) (by simp) (.string ⟨RR.toArray⟩)).setCell (p:=⟨w.heap.size+1,2,none⟩) (by simp) (.string ⟨BB.toArray⟩)
  refine bodyPost_ret (zfC R Tryz.f83 2 3 rfl _ _ rfl rfl) rfl ⟨rfl,hQ⟩
 ·have R0:=((ZV.setOther hnp 0 (.string ⟨RR.toArray⟩)).setOther hnp 1 (.string ⟨#[48]⟩))
  have R:=((R0.set 0 (.string ⟨RR.toArray⟩)).set 1 (.string ⟨#[48]⟩)).set 2 (.string ⟨BB.toArray⟩)
  simp only[List.set_cons_zero,List.set_cons_succ]at R
  have hQ:=((((hwV.setCell (p:=⟨p,0,none⟩) (show w.heap.size≤p by omega) (.string ⟨RR.toArray⟩)).setCell (p:=⟨p,1,none⟩) (show w.heap.size≤p by omega) (.string ⟨#[48]⟩)).setCell (p:=⟨w.heap.size+1,0,none⟩) (by simp) (.string ⟨RR.toArray⟩)).setCell (p:=⟨w.heap.size+1,1,none⟩) (by simp) (.string ⟨#[48]⟩)).setCell (p:=⟨w.heap.size+1,2,none⟩) (by simp) (.string ⟨BB.toArray⟩)
  clear R0
  go_wp2_with (refine zcs rfl 86 (.tmp 5) (.tmp 29) rfl p 0 P [.string ⟨#[48]⟩,.string ⟨RR.toArray⟩,.string ⟨BB.toArray⟩] [.string ⟨#[48]⟩,.string ⟨RR.toArray⟩,.string ⟨BB.toArray⟩] rfl rfl (by simp) rfl (by kernel_rfl) (by simp[Value.oneCell']) ?_;rw[hV])
  refine bodyPost_ret (zfC R Tryz.f83 2 3 rfl _ _ rfl rfl) rfl ⟨rfl,hQ⟩
end
section
open Go.RowKit Go.Shelf Kp
attribute [local go_sem] Oper.semAt_some
theorem zs6(f:Fr):(frC f).length=5:=rfl
end
section
open Go.RowKit Go.Shelf Kp
attribute [local go_sem] Oper.semAt_some
structure Sl3 where
 a:Option Addr
 n:Nat
 c:Nat
def Sl3.v(s:Sl3):Value:=.slice s.a s.n s.c
end
section
open Go.RowKit Go.Shelf Kp
open Go.Lib (decDigits)
attribute [local go_sem] Oper.semAt_some
theorem zpz(R:List (List Sd))(hp:zdE R=0)(hlen:R.length≤1000)(a:Option Addr)(nn cp:Nat)(i:Nat)(hi:i<R.flatten.length)(hg:(zcG R.flatten i).gable=false)(F:Fr)(hF:(zb6 R)[i]? = some F)(hs:F.speed≠0)(w:World)(hE:Env w)(hv:zjG w (.slice a nn cp) R) :
  CR 41 #[.agg #[.slice a nn cp],.int .i64 i] w (.tuple #[.agg (zrb F).toArray,.int .i64 0]):=by
 have ok:=zk2 hp
 have HV:=LH hv
 have HS1:Hid (∀ W,Q w W→Calls Tryz.prog 81 #[.agg #[.slice a nn cp]] W fun e w'=>∃ v',e=.returned (.tuple #[v',.int .i64 0])∧Q W w'∧zcY 7 sdC w' v' R.flatten):=LH (fun W hq=>zoT R hp hlen _ W (HV.out.keep hq))
 have HA:Hid (∀ W,Env W→Q w W→Calls Tryz.prog 82 #[.agg #[.slice a nn cp]] W fun e w'=>∃ v',e=.returned (.tuple #[v',.int .i64 0])∧w'.ownsRow W.heap.size 155 5 v' R.flatten.length (rowOf frC (zb6 R))∧Q W w'):=LH (fun W hW hq=>zqJ R hp hlen _ W hW (HV.out.keep hq))
 have hrl:0<R.flatten.length:=by omega
 have h24:R.flatten.length≤24:=by rw[count_flatten];exact ok.le
 have hfl:i<(zb6 R).length:=(List.getElem?_eq_some_iff.1 hF).1
 have hFe:(zb6 R)[i]=F:=(List.getElem?_eq_some_iff.1 hF).2
 have okF:=zpm ok.rg _ (List.getElem_mem hfl)
 rw[hFe]at okF
 have hpf:=fun w hw=>znx F okF hs w hw
 obtain⟨X,Y,Z,hpl⟩:∃ X Y Z:Str,zrb F=[.string ⟨X.toArray⟩,.string ⟨Y.toArray⟩,.string ⟨Z.toArray⟩]:=by
  unfold zrb
  split
  ·exact⟨_,[48],_,rfl⟩
  ·exact⟨[48],_,_,rfl⟩
 rw[hpl]at hpf ⊢
 have HP:=LH hpf
 clear hpf hpl
 obtain⟨W0,hW0⟩:∃ W0,(w.alloc (.cells #[.slice a nn cp] 53)).alloc (.cells #[.string ⟨#[]⟩,.string ⟨#[]⟩,.string ⟨#[]⟩] 86)=W0:=⟨_,rfl⟩
 have hq0:Q w W0:=by rw[← hW0];exact bt
 have BR:Blk W0 w.heap.size [.slice a nn cp] 53:=by rw[← hW0];exact(Blk.new w _ _).alloc _
 have BZ:Blk W0 (w.heap.size+1) [.string ⟨#[]⟩,.string ⟨#[]⟩,.string ⟨#[]⟩] 86:=by rw[← hW0];exact Blk.new1 w _ _ _
 have hE0:=hE.ofQ hq0
 clear hv HV hp ok hF hE hs okF
 generalize hS:R.flatten=S at *
 have hQ0:=Q.refl W0
 replace r0:=BR.cell
 replace lBR:=BR.lt
 replace z0:=BZ.cell 0
 replace z1:=BZ.cell 1
 replace z2:=BZ.cell 2
 simp only[zs4,zs5]at z0 z1 z2
 replace lBZ:=BZ.lt
 go_enter Tryz.func41,Tryz.ntmps41
 go_wp2_with fail
 refine(HS1.out _ hq0).mono ?_
 rintro e U1⟨vs,rfl,hq1,hrow⟩
 have hs1:Q W0 U1:=Q.trans bt hq1
 have hQ1:Q W0 U1:=Q.trans hQ0 hs1
 replace BR:=BR.keep hs1 BR.lt
 replace r0:=BR.cell
 replace lBR:=BR.lt
 replace BZ:=BZ.keep hs1 BZ.lt
 replace z0:=BZ.cell 0
 replace z1:=BZ.cell 1
 replace z2:=BZ.cell 2
 simp only[zs4,zs5]at z0 z1 z2
 replace lBZ:=BZ.lt
 obtain⟨ra,rcap,rfl,-⟩:=id hrow
 clear HS1 hW0
 have hln:(i:Int)<S.length:=by omega
 have hn0:(0:Int)≤i:=by omega
 obtain⟨-,hrw,-⟩:=zcY.at hrow
 obtain⟨b,o,rfl,hd⟩:=hrw i hi
 have d4:U1.cell? ⟨b,o+i*7+4,none⟩=some (.bool (zcG S i).gable):=hd 4 _ rfl
 rw[hg]at d4
 clear hd hrw
 go_wp2_with fail
 refine(HA.out _ (hE0.ofQ bt) (Q.trans hq0 hQ1)).mono ?_
 rintro e U2⟨vf,rfl,hown,hq2⟩
 have hs2:Q U1 U2:=Q.trans bt hq2
 have hQ2:Q W0 U2:=Q.trans hQ1 hs2
 replace BR:=BR.keep hs2 BR.lt
 replace r0:=BR.cell
 replace lBR:=BR.lt
 replace BZ:=BZ.keep hs2 BZ.lt
 replace z0:=BZ.cell 0
 replace z1:=BZ.cell 1
 replace z2:=BZ.cell 2
 simp only[zs4,zs5]at z0 z1 z2
 replace lBZ:=BZ.lt
 clear HA d4
 obtain⟨fg,fcap,rfl⟩:=zm5 hown hrl
 have hfc:∀ j u,j<5→(frC F)[j]? = some u→U2.cell? ⟨fg,i*5+j,none⟩=some u:=fun j u hj hu=>by
  have:=hown.cells rfl (i*5+j) u (by rw[zc7 zs6 _ i hfl j hj,hFe];exact hu)
  rw[Addr.add_lit,Nat.zero_add]at this
  exact this
 clear hown hrow
 unfold frC at hfc HP
 have f0:=hfc 0 _ (by decide) rfl
 have f1:=hfc 1 _ (by decide) rfl
 have f2:=hfc 2 _ (by decide) rfl
 have f3:=hfc 3 _ (by decide) rfl
 have f4:=hfc 4 _ (by decide) rfl
 rw[Nat.add_zero]at f0
 clear hfc
 generalize hl:S.length=rl at *
 go_wp2_with fail
 refine cx (HP.out _ (hE0.ofQ hQ2)) fun U3 hq3=>?_
 have B3:=BZ.keep hq3 BZ.lt
 have z3:=B3.cell
 have zf:=B3.frozen
 have hw3:Q w U3:=Q.trans hq0 (Q.trans hQ2 hq3)
 have R3:=((B3.set 0 (.string ⟨X.toArray⟩)).set 1 (.string ⟨Y.toArray⟩)).set 2 (.string ⟨Z.toArray⟩)
 simp only[List.set_cons_zero,List.set_cons_succ]at R3
 have hQ:=((hw3.setCell (p:=⟨w.heap.size+1,0,none⟩) (by simp) (.string ⟨X.toArray⟩)).setCell (p:=⟨w.heap.size+1,1,none⟩) (by simp) (.string ⟨Y.toArray⟩)).setCell (p:=⟨w.heap.size+1,2,none⟩) (by simp) (.string ⟨Z.toArray⟩)
 clear f0 f1 f2 f3 f4 hq3
 go_wp2
 refine bodyPost_ret (zfC R3 Tryz.f41 4 5 rfl _ _ rfl rfl) rfl ⟨rfl,hQ⟩
theorem zjD(R:List (List Sd))(hp:zdE R=0)(hlen:R.length≤1000)(hcn:zaF R≤1000)(a:Option Addr)(nn cp:Nat)(l:List Vm)(hl:∀ m∈l,VmOk m)(h2:l.length≤2)(b cap:Nat)(ty:TypeId)(w:World)(hE:Env w)(hv:zjG w (.slice a nn cp) R)(hb:Blk w b (l.flatMap Vm.c) ty) :
  CR 40 #[.agg #[.slice a nn cp],.slice (some ⟨b,0,none⟩) l.length cap] w (.int .i64 0):=by
 have HC:=LH (fun W hW (hq:Q w W)=>zek l hl h2 b cap ty W hW (hb.keep hq hb.lt))
 have hpc:=fun W (hq:Q w W)=>zhc R hlen hcn _ W (hv.keep hq)
 rw[hp]at hpc
 have HP:=LH hpc
 clear hpc hv hb hl h2 hp hlen hcn
 generalize l.length=n at *
 obtain⟨W0,hW0⟩:∃ W0,w.alloc (.cells #[.slice a nn cp] 53)=W0:=⟨_,rfl⟩
 have hq0:Q w W0:=by rw[← hW0];exact bt
 have BR:Blk W0 w.heap.size [.slice a nn cp] 53:=by rw[← hW0];exact Blk.new w _ _
 have hE0:=hE.ofQ hq0
 have hQ0:=Q.refl W0
 replace r0:=BR.cell
 replace lBR:=BR.lt
 go_enter Tryz.func40,Tryz.ntmps40
 go_wp2_with fail
 refine cx (HC.out _ hE0 hq0) fun U1 hq1=>?_
 have hs1:Q W0 U1:=Q.trans bt hq1
 have hQ1:Q W0 U1:=Q.trans hQ0 hs1
 replace BR:=BR.keep hs1 BR.lt
 replace r0:=BR.cell
 replace lBR:=BR.lt
 clear hW0 HC
 go_wp2_with fail
 refine cx (HP.out _ (Q.trans hq0 hQ1)) fun U2 hq2=>?_
 have hs2:Q U1 U2:=Q.trans bt hq2
 have hQ2:Q W0 U2:=Q.trans hQ1 hs2
 replace BR:=BR.keep hs2 BR.lt
 replace r0:=BR.cell
 replace lBR:=BR.lt
 have hQe:=Q.trans hq0 hQ2
 go_wp2
 go_ret
 exact⟨rfl,hQe⟩
end
end Go.Proofs.YtagkadlaeeoblaaGreatDoor
