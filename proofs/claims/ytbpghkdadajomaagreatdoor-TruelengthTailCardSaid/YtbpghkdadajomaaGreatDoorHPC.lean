/-
  Walks of package plan: corners, vectors, ranges, the iterator over the sides of a ring.
-/
import Derived.Test.YtbpghkdadajomaaGreatDoorH10
set_option maxRecDepth 100000
set_option maxHeartbeats 4000000
namespace Go.Proofs.YtbpghkdadajomaaGreatDoor
open Go.RowKit Kp
theorem zgz{a b:Int}(ha:-131072≤a∧a≤131072)(hb:-131072≤b∧b≤131072):-17179869184≤a*b∧a*b≤17179869184:=by
 have h1:a.natAbs≤131072:=by omega
 have h2:b.natAbs≤131072:=by omega
 have h3:=Nat.mul_le_mul h1 h2
 rw[← Int.natAbs_mul]at h3
 omega
theorem zkp{fn:Func}{m:Tmp}(hf:fn.results=#[.cell m 258])(tmps:Array Value)(W:World)(b:Nat)(x y:Value)(hp:tmps.getD m undef=.pointer (some ⟨b,0,none⟩))
  (c0:W.cell? ⟨b,0,none⟩=some x)(c1:W.cell? ⟨b,1,none⟩=some y) :
  (results fn tmps).run Tryz.prog W=.ok (.agg #[x,y]) W:=by
 simp only[Array.getD_eq_getD_getElem?]at hp
 simp[results,hf,go_sem,hp,c0,c1]
theorem zaS(x y rise run:Int)(g:Bool)(p o:Int)(w:World) :
  Calls Tryz.prog 181 #[.agg #[.int .i64 x,.int .i64 y,.int .i64 rise,.int .i64 run,.bool g,.int .i64 p,.int .i64 o]] w fun e w'=>e=.returned (.agg #[.int .i64 x,.int .i64 y])∧Q w w':=by
 go_enter Tryz.func181,Tryz.ntmps181
 go_wp2
 have BB:=Blk.new1 w (.cells #[.int .i64 x,.int .i64 y,.int .i64 rise,.int .i64 run,.bool g,.int .i64 p,.int .i64 o] 36) [.int .i64 x,.int .i64 y] 258
 exact bodyPost_ret (v:=.agg #[.int .i64 x,.int .i64 y]) (zkp Tryz.results181 _ _ (w.heap.size+1) _ _ rfl (BB.cell 0) (BB.cell 1)) rfl ⟨rfl,bt⟩
theorem zmy(x y u v:Int)(hx:-4294967296≤x∧x≤4294967296)(hy:-4294967296≤y∧y≤4294967296)(hu:-4294967296≤u∧u≤4294967296)(hv:-4294967296≤v∧v≤4294967296)(w:World) :
  Calls Tryz.prog 182 #[.agg #[.int .i64 x,.int .i64 y],.agg #[.int .i64 u,.int .i64 v]] w fun e w'=>e=.returned (.agg #[.int .i64 (u - x),.int .i64 (v - y)])∧Q w w':=by
 have w1:=Go.IntWalk.i64_in (u - x) (by omega)
 have w2:=Go.IntWalk.i64_in (v - y) (by omega)
 go_enter Tryz.func182,Tryz.ntmps182
 go_wp2
 have BB:=Blk.new2 w (.cells #[.int .i64 x,.int .i64 y] 258) (.cells #[.int .i64 u,.int .i64 v] 258) [.int .i64 (u - x),.int .i64 (v - y)] 258
 exact bodyPost_ret (v:=.agg #[.int .i64 (u - x),.int .i64 (v - y)]) (zkp Tryz.results182 _ _ (w.heap.size+2) _ _ rfl (BB.cell 0) (BB.cell 1)) rfl ⟨rfl,bt⟩
theorem zjF(x y u v:Int)(hx:-131072≤x∧x≤131072)(hy:-131072≤y∧y≤131072)(hu:-131072≤u∧u≤131072)(hv:-131072≤v∧v≤131072)(w:World) :
  Calls Tryz.prog 238 #[.agg #[.int .i64 x,.int .i64 y],.agg #[.int .i64 u,.int .i64 v]] w fun e w'=>e=.returned (.int .i64 (zfd x y u v))∧Q w w':=by
 have m1:=zgz hx hv
 have m2:=zgz hy hu
 unfold zfd
 have w1:=Go.IntWalk.i64_in (x*v) (by omega)
 have w2:=Go.IntWalk.i64_in (y*u) (by omega)
 have w3:=Go.IntWalk.i64_in (x*v - y*u) (by omega)
 clear m1 m2
 go_enter Tryz.func238,Tryz.ntmps238
 go_wp2
 go_ret
 exact⟨rfl,bt⟩
theorem zeW(n a b:Int)(w:World) :
  Calls Tryz.prog 178 #[.int .i64 n,.int .i64 a,.int .i64 b] w fun e w'=>e=.returned (.bool (decide (a≤n) && decide (n≤b)))∧Q w w':=by
 go_enter Tryz.func178,Tryz.ntmps178
 by_cases h1:a≤n
 ·rw[decide_eq_true h1,Bool.true_and]
  go_wp2
  go_ret
  exact⟨rfl,Q.refl _⟩
 ·rw[decide_eq_false h1,Bool.false_and]
  go_wp2
  go_ret
  exact⟨rfl,Q.refl _⟩
structure ArnOk (a:Arn):Prop where
 b:0≤a.b.x∧a.b.x≤65536∧0≤a.b.y∧a.b.y≤65536
 o:0≤a.o.x∧a.o.x≤65536∧0≤a.o.y∧a.o.y≤65536
 h:0≤a.h.x∧a.h.x≤65536∧0≤a.h.y∧a.h.y≤65536
theorem zkv(a:Arn)(ok:ArnOk a)(w:World) :
  Calls Tryz.prog 183 #[.agg (zga a).toArray] w fun e w'=>e=.returned (.agg #[.int .i64 a.wx,.int .i64 a.wy])∧Q w w':=by
 obtain⟨b,o,h⟩:=a
 obtain⟨kb,ko,kh⟩:=ok
 unfold Arn.wx Arn.wy zga sdC
 simp only at *
 have HO:=LH (fun w=>zaS o.x o.y o.rise o.run o.gable o.plate o.over w)
 have HH:=LH (fun w=>zaS h.x h.y h.rise h.run h.gable h.plate h.over w)
 have HT:=LH (fun w=>zmy o.x o.y h.x h.y (by omega) (by omega) (by omega) (by omega) w)
 clear kb ko kh
 go_enter Tryz.func183,Tryz.ntmps183
 go_wp2_with fail
 have A:=(Blk.new w [.int .i64 b.x,.int .i64 b.y,.int .i64 b.rise,.int .i64 b.run,.bool b.gable,.int .i64 b.plate,.int .i64 b.over,.int .i64 o.x,.int .i64 o.y,.int .i64 o.rise,.int .i64 o.run,.bool o.gable,.int .i64 o.plate,.int .i64 o.over,.int .i64 h.x,.int .i64 h.y,.int .i64 h.rise,.int .i64 h.run,.bool h.gable,.int .i64 h.plate,.int .i64 h.over] 256).alloc (.cells #[.int .i64 0,.int .i64 0] 258)
 have S:=Blk.new1 w (.cells #[.int .i64 b.x,.int .i64 b.y,.int .i64 b.rise,.int .i64 b.run,.bool b.gable,.int .i64 b.plate,.int .i64 b.over,.int .i64 o.x,.int .i64 o.y,.int .i64 o.rise,.int .i64 o.run,.bool o.gable,.int .i64 o.plate,.int .i64 o.over,.int .i64 h.x,.int .i64 h.y,.int .i64 h.rise,.int .i64 h.run,.bool h.gable,.int .i64 h.plate,.int .i64 h.over] 256) [.int .i64 0,.int .i64 0] 258
 obtain⟨W0,hW0⟩:∃ W0,((w.alloc (.cells #[.int .i64 b.x,.int .i64 b.y,.int .i64 b.rise,.int .i64 b.run,.bool b.gable,.int .i64 b.plate,.int .i64 b.over,.int .i64 o.x,.int .i64 o.y,.int .i64 o.rise,.int .i64 o.run,.bool o.gable,.int .i64 o.plate,.int .i64 o.over,.int .i64 h.x,.int .i64 h.y,.int .i64 h.rise,.int .i64 h.run,.bool h.gable,.int .i64 h.plate,.int .i64 h.over] 256)).alloc (.cells #[.int .i64 0,.int .i64 0] 258))=W0:=⟨_,rfl⟩
 have hq0:Q w W0:=by rw[← hW0];exact bt
 rw[hW0]at A S ⊢
 clear hW0
 have d7:=A.drew.cell 7
 have d8:=A.drew.cell 8
 have d9:=A.drew.cell 9
 have d10:=A.drew.cell 10
 have d11:=A.drew.cell 11
 have d12:=A.drew.cell 12
 have d13:=A.drew.cell 13
 have d14:=A.drew.cell 14
 have d15:=A.drew.cell 15
 have d16:=A.drew.cell 16
 have d17:=A.drew.cell 17
 have d18:=A.drew.cell 18
 have d19:=A.drew.cell 19
 have d20:=A.drew.cell 20
 simp only[zs4,zs5]at d7 d8 d9 d10 d11 d12 d13 d14 d15 d16 d17 d18 d19 d20
 have hqd:Q W0 W0.drew:=Below.drew (Q.refl W0)
 refine zo 7 (by kernel_rfl) (by kernel_rfl) rfl ?_
 refine svp 0 ?_
 refine svq 1 rfl (by intro w' hq;have hc0:=ze hq d7;have hc1:=ze hq d8;have hc2:=ze hq d9;have hc3:=ze hq d10;have hc4:=ze hq d11;have hc5:=ze hq d12;have hc6:=ze hq d13;go_simp;try with_reducible rfl) ?_
 refine zh (i:=2) (v:=_) rfl rfl (by kernel_rfl) (by kernel_rfl) (fun _ _ _ h=>h) (by rfl) ?_ (fun w' hq=>HO.out w') ?_
 ·(intro w' hq;go_simp;try with_reducible rfl)
 simp only[Act.put,zs1,zs2,zs3]
 refine svp 3 ?_
 refine svq 4 rfl (by intro w' hq;have hc0:=ze hq d14;have hc1:=ze hq d15;have hc2:=ze hq d16;have hc3:=ze hq d17;have hc4:=ze hq d18;have hc5:=ze hq d19;have hc6:=ze hq d20;go_simp;try with_reducible rfl) ?_
 refine zh (i:=5) (v:=_) rfl rfl (by kernel_rfl) (by kernel_rfl) (fun _ _ _ h=>h) (by rfl) ?_ (fun w' hq=>HH.out w') ?_
 ·(intro w' hq;go_simp;try with_reducible rfl)
 simp only[Act.put,zs1,zs2,zs3]
 refine zh (i:=6) (v:=_) rfl rfl (by kernel_rfl) (by kernel_rfl) (fun _ _ _ h=>h) (by rfl) ?_ (fun w' hq=>HT.out w') ?_
 ·(intro w' hq;go_simp;try with_reducible rfl)
 simp only[Act.put,zs1,zs2,zs3]
 refine zi (by kernel_rfl) (fun w3 hq3=>?_)
 simp only[List.drop_succ_cons,List.drop_zero]
 have hqq:Q W0 w3:=Q.trans hqd hq3
 have hQ3:Q w w3:=Q.trans hq0 hqq
 replace S:=S.keep hqq S.lt
 have lS:=S.lt
 have s0:=S.cell 0
 have f0:=S.frozen 0
 have s1:=S.cell 1
 have f1:=S.frozen 1
 simp only[zs4,zs5]at s0 s1
 have S':=(S.set 0 (.int .i64 (h.x - o.x))).set 1 (.int .i64 (h.y - o.y))
 simp only[List.set_cons_zero,List.set_cons_succ]at S'
 have hQ4:=(hQ3.setCell (p:=⟨w.heap.size+1,0,none⟩) (by simp) (.int .i64 (h.x - o.x))).setCell (p:=⟨w.heap.size+1,1,none⟩) (by simp) (.int .i64 (h.y - o.y))
 clear A d7 d8 d9 d10 d11 d12 d13 d14 d15 d16 d17 d18 d19 d20
 go_wp2
 exact bodyPost_ret (v:=.agg #[.int .i64 (h.x - o.x),.int .i64 (h.y - o.y)]) (zkp Tryz.results183 _ _ (w.heap.size+1) _ _ rfl (S'.cell 0) (S'.cell 1)) rfl ⟨rfl,hQ4⟩
theorem zpq(a:Arn)(ok:ArnOk a)(w:World) :
  Calls Tryz.prog 188 #[.agg (zga a).toArray] w fun e w'=>e=.returned (.bool (zpB a))∧Q w w':=by
 have HW:=LH (fun w=>zkv a ok w)
 obtain⟨⟨x1,y1,r1,n1,g1,p1,q1⟩,⟨x2,y2,r2,n2,g2,p2,q2⟩,⟨x3,y3,r3,n3,g3,p3,q3⟩⟩:=a
 obtain⟨kb,ko,kh⟩:=ok
 unfold zpB
 unfold Arn.wx Arn.wy zga sdC at *
 unfold Arn.vx Arn.vy
 simp only at *
 have HB:=LH (fun w=>zaS x1 y1 r1 n1 g1 p1 q1 w)
 have HO:=LH (fun w=>zaS x2 y2 r2 n2 g2 p2 q2 w)
 have HT:=LH (fun w=>zmy x1 y1 x2 y2 (by omega) (by omega) (by omega) (by omega) w)
 have HC:=LH (fun w=>zjF (x2 - x1) (y2 - y1) (x3 - x2) (y3 - y2) (by omega) (by omega) (by omega) (by omega) w)
 generalize zfd (x2 - x1) (y2 - y1) (x3 - x2) (y3 - y2)=cr at *
 clear kb ko kh
 go_enter Tryz.func188,Tryz.ntmps188
 go_wp2_with fail
 have A:=Blk.new w [.int .i64 x1,.int .i64 y1,.int .i64 r1,.int .i64 n1,.bool g1,.int .i64 p1,.int .i64 q1,.int .i64 x2,.int .i64 y2,.int .i64 r2,.int .i64 n2,.bool g2,.int .i64 p2,.int .i64 q2,.int .i64 x3,.int .i64 y3,.int .i64 r3,.int .i64 n3,.bool g3,.int .i64 p3,.int .i64 q3] 256
 obtain⟨W0,hW0⟩:∃ W0,w.alloc (.cells #[.int .i64 x1,.int .i64 y1,.int .i64 r1,.int .i64 n1,.bool g1,.int .i64 p1,.int .i64 q1,.int .i64 x2,.int .i64 y2,.int .i64 r2,.int .i64 n2,.bool g2,.int .i64 p2,.int .i64 q2,.int .i64 x3,.int .i64 y3,.int .i64 r3,.int .i64 n3,.bool g3,.int .i64 p3,.int .i64 q3] 256)=W0:=⟨_,rfl⟩
 have hq0:Q w W0:=by rw[← hW0];exact bt
 rw[hW0]at A ⊢
 clear hW0
 have d0:=A.drew.cell 0
 have d1:=A.drew.cell 1
 have d2:=A.drew.cell 2
 have d3:=A.drew.cell 3
 have d4:=A.drew.cell 4
 have d5:=A.drew.cell 5
 have d6:=A.drew.cell 6
 have d7:=A.drew.cell 7
 have d8:=A.drew.cell 8
 have d9:=A.drew.cell 9
 have d10:=A.drew.cell 10
 have d11:=A.drew.cell 11
 have d12:=A.drew.cell 12
 have d13:=A.drew.cell 13
 have d14:=A.drew.cell 14
 have d15:=A.drew.cell 15
 have d16:=A.drew.cell 16
 have d17:=A.drew.cell 17
 have d18:=A.drew.cell 18
 have d19:=A.drew.cell 19
 have d20:=A.drew.cell 20
 simp only[zs4,zs5]at d0 d1 d2 d3 d4 d5 d6 d7 d8 d9 d10 d11 d12 d13 d14 d15 d16 d17 d18 d19 d20
 have hqd:Q W0 W0.drew:=Below.drew (Q.refl W0)
 refine zo 12 (by kernel_rfl) (by kernel_rfl) rfl ?_
 refine svp 0 ?_
 refine svq 1 rfl (by intro w' hq;have hc0:=ze hq d0;have hc1:=ze hq d1;have hc2:=ze hq d2;have hc3:=ze hq d3;have hc4:=ze hq d4;have hc5:=ze hq d5;have hc6:=ze hq d6;go_simp;try with_reducible rfl) ?_
 refine zh (i:=2) (v:=_) rfl rfl (by kernel_rfl) (by kernel_rfl) (fun _ _ _ h=>h) (by rfl) ?_ (fun w' hq=>HB.out w') ?_
 ·(intro w' hq;go_simp;try with_reducible rfl)
 simp only[Act.put,zs1,zs2,zs3]
 refine svp 3 ?_
 refine svq 4 rfl (by intro w' hq;have hc0:=ze hq d7;have hc1:=ze hq d8;have hc2:=ze hq d9;have hc3:=ze hq d10;have hc4:=ze hq d11;have hc5:=ze hq d12;have hc6:=ze hq d13;go_simp;try with_reducible rfl) ?_
 refine zh (i:=5) (v:=_) rfl rfl (by kernel_rfl) (by kernel_rfl) (fun _ _ _ h=>h) (by rfl) ?_ (fun w' hq=>HO.out w') ?_
 ·(intro w' hq;go_simp;try with_reducible rfl)
 simp only[Act.put,zs1,zs2,zs3]
 refine zh (i:=6) (v:=_) rfl rfl (by kernel_rfl) (by kernel_rfl) (fun _ _ _ h=>h) (by rfl) ?_ (fun w' hq=>HT.out w') ?_
 ·(intro w' hq;go_simp;try with_reducible rfl)
 simp only[Act.put,zs1,zs2,zs3]
 refine zW (i:=7) (v:=_) rfl rfl (by kernel_rfl) (by kernel_rfl) (fun _ _ _ h=>h) (by rfl) (fun w' hq=>zc4 256 (.tmp 1) rfl w.heap.size rfl (A.keep (Q.trans hqd hq) A.lt) _ Tryz.underlying256 rfl (by kernel_rfl)) ?_
 simp only[Act.put,zs1,zs2,zs3]
 refine zh (i:=8) (v:=_) rfl rfl (by kernel_rfl) (by kernel_rfl) (fun _ _ _ h=>h) (by rfl) ?_ (fun w' hq=>HW.out w') ?_
 ·(intro w' hq;go_simp;try with_reducible rfl)
 simp only[Act.put,zs1,zs2,zs3]
 refine zh (i:=9) (v:=_) rfl rfl (by kernel_rfl) (by kernel_rfl) (fun _ _ _ h=>h) (by rfl) ?_ (fun w' hq=>HC.out w') ?_
 ·(intro w' hq;go_simp;try with_reducible rfl)
 simp only[Act.put,zs1,zs2,zs3]
 refine svp 10 ?_
 refine svp 11 ?_
 refine zi (by kernel_rfl) (fun w3 hq3=>?_)
 simp only[List.drop_succ_cons,List.drop_nil]
 have hQ3:Q w w3:=Q.trans hq0 (Q.trans hqd hq3)
 clear A d0 d1 d2 d3 d4 d5 d6 d7 d8 d9 d10 d11 d12 d13 d14 d15 d16 d17 d18 d19 d20
 go_wp2
 go_ret
 exact⟨rfl,hQ3⟩
theorem zdW(a:Option Addr)(n cap:Nat)(w:World) :
  Calls Tryz.prog 180 #[.slice a n cap] w fun e w'=>e=.returned (.func (.func 237) #[] #[.pointer (some ⟨w.heap.size,0,none⟩)])∧w'=w.alloc (.cells #[.slice a n cap] 61):=by
 go_enter Tryz.func180,Tryz.ntmps180
 go_wp2
 go_ret
 exact⟨rfl,rfl⟩
def zcp(w:World)(a:Option Addr)(r:List Sd):Prop:=∀ i,i<r.length→∃ b o,a=some ⟨b,o,none⟩∧∀ j u,(sdC (zcV r i))[j]? = some u→w.cell? ⟨b,o+i*7+j,none⟩=some u
def zb0:Option Addr→List Nat
 | none=>[]
 | some a=>[a.block]
theorem zcp.keepB{w w':World}{a:Option Addr}{r:List Sd}(h:zcp w a r){bs:List Nat}(hk:zL bs w w')(hb:∀ k∈zb0 a,k∈bs):zcp w' a r:=fun i hi=>by
 obtain⟨b,o,rfl,hc⟩:=h i hi
 exact⟨b,o,rfl,fun j u hu=>hk.cell (hb b (by simp[zb0])) (hc j u hu)⟩
theorem zcp.q{w w':World}{a:Option Addr}{r:List Sd}(h:zcp w a r)(hq:Q w w'):zcp w' a r:=fun i hi=>by
 obtain⟨b,o,ha,hc⟩:=h i hi
 exact⟨b,o,ha,fun j u hu=>ze hq (hc j u hu)⟩
theorem zgh{r:List Sd}{i:Nat}(h:i<r.length):zcV r i=r[i]:=by unfold zcV;rw[List.getD_eq_getElem?_getD,List.getElem?_eq_getElem h];rfl
theorem zcS.at{w:World}{a:Option Addr}{n cap:Nat}{r:List Sd}(h:zcS 7 sdC w (.slice a n cap) r):n=r.length∧zcp w a r∧(∀ k∈zb0 a,0<r.length→k<w.heap.size):=by
 obtain⟨a',c',he,hc⟩:=h
 injection he with e1 e2 e3
 subst e1
 refine⟨e2,fun i hi=>?_,fun k hk h0=>?_⟩
 ·obtain⟨b,o,ha,hb,h⟩:=hc i hi
  exact⟨b,o,ha,by rw[zgh hi];exact h⟩
 ·obtain⟨b,o,rfl,hb,h⟩:=hc 0 h0
  simp[zb0]at hk
  omega
theorem zo5(m:Nat)(hm:1≤m)(l Bs:Nat)(r:List Sd)(a:Option Addr)(cap:Nat)(hlen:r.length≤1000)(J Jx:List (PlN r.length)→World→Prop)
  (hY:∀ pre x W,J pre W→zsx pre x→YieldAt Fence.wide (m - 1) Tryz.prog l #[.int .i64 (x.1:Nat),.agg (zga (arn r x.1)).toArray] W fun e W' =>
   (e=.returned (.bool true)∧J (pre++[x]) W'∧zL (Bs::zb0 a) W W')∨(e=.returned (.bool false)∧Jx (pre++[x]) W'))
  (hst:∀ pre W W',J pre W→Q W W'→J pre W') (W:World) (hBs:W.cell? ⟨Bs,0,none⟩=some (.slice a r.length cap)) (hr:zcp W a r) (h0:J [] W) :
  CallsIn Fence.wide m Tryz.prog 237 #[.func (.yield l) #[] #[],.pointer (some ⟨Bs,0,none⟩)] W fun e W'=>(∃ v,e=.returned v) ∧
   ((∃ ys,UpN r.length ys∧J ys W')∨(∃ pre,(∃ k,k≤r.length∧UpN k pre)∧Jx pre W')):=by
 refine callsIn_of_wp Tryz.func237 rfl trivial ?_ rfl
 simp only[Tryz.ntmps237,List.size_toArray,List.length_cons,List.length_nil,Nat.reduceAdd,Nat.reduceSub,Array.replicate_succ,Array.replicate_zero,List.push_toArray,List.append_toArray,List.nil_append,List.cons_append]
 have HR:=LH hr
 clear hr
 gi_wp2
 gi_loopw [9] (fun i wr=>∃ k:Nat,k≤r.length∧i=.int .i64 k∧(∃ pre,UpN k pre∧J pre wr)∧zL (Bs::zb0 a) W wr) (fun i _=>r.length - (intOf i).toNat)
 case atStart=>exact⟨0,Nat.zero_le _,by simp,⟨[],rfl,h0⟩,zL.refl _ _⟩
 case round =>
  obtain⟨k,hk,rfl,⟨pre,hpre,hJs⟩,hnx⟩:=hrel
  have hBs2:=hnx.cell (by simp) hBs
  have hrw:=HR.out.keepB hnx (fun k hk=>by simp[hk])
  by_cases hlt:k<r.length
  ·have hmix:Tryz.prog.follows .mixedOrders=true:=by kernel_rfl
   have hYk:=hY pre ⟨k,hlt⟩
   have hnext:=hpre.next ⟨k,hlt⟩ rfl
   have hpl:=hpre.len
   obtain⟨b,o,rfl,-⟩:=hrw k hlt
   have hcc:∀ i,i<r.length→∀ j u,(sdC (zcV r i))[j]? = some u→wr.drew.cell? ⟨b,o+i*7+j,none⟩=some u:=fun i hi j u hu=>by
    obtain⟨b',o',e,hc⟩:=hrw i hi
    injection e with e
    injection e with e1 e2
    subst e1 e2
    exact hc j u hu
   obtain⟨p,hp⟩:∃ p,(k+r.length - 1) % r.length=p:=⟨_,rfl⟩
   obtain⟨q,hq'⟩:∃ q,(k+1) % r.length=q:=⟨_,rfl⟩
   have hpl':p<r.length:=by rw[← hp];exact Nat.mod_lt _ (by omega)
   have hql':q<r.length:=by rw[← hq'];exact Nat.mod_lt _ (by omega)
   have e1:((k:Int)+(r.length:Int) - 1).tmod (r.length:Int)=(p:Int):=by
    rw[Int.tmod_eq_emod_of_nonneg (by omega),show ((k:Int)+(r.length:Int) - 1)=((k+r.length - 1:Nat):Int) by omega,← hp];exact(Int.natCast_emod _ _).symm
   have e2:((k:Int)+1).tmod (r.length:Int)=(q:Int):=by
    rw[Int.tmod_eq_emod_of_nonneg (by omega),show ((k:Int)+1)=((k+1:Nat):Int) by omega,← hq'];exact(Int.natCast_emod _ _).symm
   have c1:=hcc p hpl'
   have c2:=hcc k hlt
   have c3:=hcc q hql'
   have hyk:=hYk
   unfold arn at hyk
   simp only[hp,hq']at hyk
   clear hYk hcc
   generalize zcV r p=s1 at *
   generalize zcV r k=s2 at *
   generalize zcV r q=s3 at *
   have d10:wr.drew.cell? ⟨b,o+p*7,none⟩=some (.int .i64 s1.x):=c1 0 _ rfl
   have d11:wr.drew.cell? ⟨b,o+p*7+1,none⟩=some (.int .i64 s1.y):=c1 1 _ rfl
   have d12:wr.drew.cell? ⟨b,o+p*7+2,none⟩=some (.int .i64 s1.rise):=c1 2 _ rfl
   have d13:wr.drew.cell? ⟨b,o+p*7+3,none⟩=some (.int .i64 s1.run):=c1 3 _ rfl
   have d14:wr.drew.cell? ⟨b,o+p*7+4,none⟩=some (.bool s1.gable):=c1 4 _ rfl
   have d15:wr.drew.cell? ⟨b,o+p*7+5,none⟩=some (.int .i64 s1.plate):=c1 5 _ rfl
   have d16:wr.drew.cell? ⟨b,o+p*7+6,none⟩=some (.int .i64 s1.over):=c1 6 _ rfl
   have d20:wr.drew.cell? ⟨b,o+k*7,none⟩=some (.int .i64 s2.x):=c2 0 _ rfl
   have d21:wr.drew.cell? ⟨b,o+k*7+1,none⟩=some (.int .i64 s2.y):=c2 1 _ rfl
   have d22:wr.drew.cell? ⟨b,o+k*7+2,none⟩=some (.int .i64 s2.rise):=c2 2 _ rfl
   have d23:wr.drew.cell? ⟨b,o+k*7+3,none⟩=some (.int .i64 s2.run):=c2 3 _ rfl
   have d24:wr.drew.cell? ⟨b,o+k*7+4,none⟩=some (.bool s2.gable):=c2 4 _ rfl
   have d25:wr.drew.cell? ⟨b,o+k*7+5,none⟩=some (.int .i64 s2.plate):=c2 5 _ rfl
   have d26:wr.drew.cell? ⟨b,o+k*7+6,none⟩=some (.int .i64 s2.over):=c2 6 _ rfl
   have d30:wr.drew.cell? ⟨b,o+q*7,none⟩=some (.int .i64 s3.x):=c3 0 _ rfl
   have d31:wr.drew.cell? ⟨b,o+q*7+1,none⟩=some (.int .i64 s3.y):=c3 1 _ rfl
   have d32:wr.drew.cell? ⟨b,o+q*7+2,none⟩=some (.int .i64 s3.rise):=c3 2 _ rfl
   have d33:wr.drew.cell? ⟨b,o+q*7+3,none⟩=some (.int .i64 s3.run):=c3 3 _ rfl
   have d34:wr.drew.cell? ⟨b,o+q*7+4,none⟩=some (.bool s3.gable):=c3 4 _ rfl
   have d35:wr.drew.cell? ⟨b,o+q*7+5,none⟩=some (.int .i64 s3.plate):=c3 5 _ rfl
   have d36:wr.drew.cell? ⟨b,o+q*7+6,none⟩=some (.int .i64 s3.over):=c3 6 _ rfl
   have dB:wr.drew.cell? ⟨Bs,0,none⟩=some (.slice (some ⟨b,o,none⟩) r.length cap):=hBs2
   have hk0:(0:Int)≤k:=by omega
   have hkl:(k:Int)<r.length:=by omega
   have hln:(r.length:Int)≤1000:=by omega
   have hn0:(0:Int)<r.length:=by omega
   have hp0:(0:Int)≤p:=by omega
   have hpz:(p:Int)<r.length:=by omega
   have hq0:(0:Int)≤q:=by omega
   have hqz:(q:Int)<r.length:=by omega
   have hne:¬ r=[]:=fun h=>by
    have:=congrArg List.length h
    simp only[List.length_nil]at this
    omega
   have w1:=Go.IntWalk.i64_in ((k:Int)+r.length) (by omega)
   have w2:=Go.IntWalk.i64_in ((k:Int)+r.length - 1) (by omega)
   have w3:=Go.IntWalk.i64_in ((k:Int)+1) (by omega)
   have w4:=Go.IntWalk.i64_in (p:Int) (by omega)
   have w5:=Go.IntWalk.i64_in (q:Int) (by omega)
   have HYK:=LH hyk
   clear c1 c2 c3 hyk hp hq'
   gi_wp2
   refine RT.zaK 23 hmix (by kernel_rfl) rfl ?_
   refine RT.svp 0 ?_
   refine RT.svp 1 ?_
   refine RT.svq 2 rfl (by intro w' hq;have hc0:=ze hq dB;go_simp;try with_reducible rfl) ?_
   refine RT.svp 3 ?_
   refine RT.svp 4 ?_
   refine RT.svp 5 ?_
   refine RT.svp 6 ?_
   refine RT.svp 7 ?_
   refine RT.svp 8 ?_
   refine RT.svp 9 ?_
   refine RT.svq 10 rfl (by intro w' hq;have hc0:=ze hq d10;have hc1:=ze hq d11;have hc2:=ze hq d12;have hc3:=ze hq d13;have hc4:=ze hq d14;have hc5:=ze hq d15;have hc6:=ze hq d16;go_simp;try with_reducible rfl) ?_
   refine RT.svq 11 rfl (by intro w' hq;have hc0:=ze hq dB;go_simp;try with_reducible rfl) ?_
   refine RT.svp 12 ?_
   refine RT.svp 13 ?_
   refine RT.svq 14 rfl (by intro w' hq;have hc0:=ze hq d20;have hc1:=ze hq d21;have hc2:=ze hq d22;have hc3:=ze hq d23;have hc4:=ze hq d24;have hc5:=ze hq d25;have hc6:=ze hq d26;go_simp;try with_reducible rfl) ?_
   refine RT.svq 15 rfl (by intro w' hq;have hc0:=ze hq dB;go_simp;try with_reducible rfl) ?_
   refine RT.svp 16 ?_
   refine RT.svp 17 ?_
   refine RT.svp 18 ?_
   refine RT.svp 19 ?_
   refine RT.svp 20 ?_
   refine RT.svq 21 rfl (by intro w' hq;have hc0:=ze hq d30;have hc1:=ze hq d31;have hc2:=ze hq d32;have hc3:=ze hq d33;have hc4:=ze hq d34;have hc5:=ze hq d35;have hc6:=ze hq d36;go_simp;try with_reducible rfl) ?_
   refine RT.svp 22 ?_
   refine RT.zi (by kernel_rfl) (fun w3 hq3=>?_)
   simp only[List.drop_succ_cons,List.drop_zero]
   have hqq:Q wr w3:=Q.trans (Below.drew (Q.refl wr)) hq3
   have hnx3:zL (Bs::zb0 (some ⟨b,o,none⟩)) W w3:=hnx.trans (zL.q hqq)
   have hJ3:=hst _ _ _ hJs hqq
   have hYK:=HYK.out w3 hJ3 hpl.symm
   obtain⟨fn,tmps,assign,body,hy,hR⟩:=hYK
   unfold zga sdC at hy
   simp only[List.cons_append,List.nil_append]at hy
   clear hrw HR dB d10 d11 d12 d13 d14 d15 d16 d20 d21 d22 d23 d24 d25 d26 d30 d31 d32 d33 d34 d35 d36
   gi_wp2
   refine hR.mono ?_
   rintro e W3 (⟨rfl,hJ4,hk4⟩|⟨rfl,hJx4⟩)
   ·gi_wp2
    go_roundw
    case rel=>exact⟨k+1,by omega,by go_num,⟨_,hnext,hJ4⟩,hnx3.trans hk4⟩
    case measure=>simp[intOf];omega
   ·gi_wp2
    refine bodyPost_ret (results_none rfl _ _ _) rfl ?_
    exact⟨⟨_,rfl⟩,.inr ⟨_,⟨k+1,by omega,hnext⟩,hJx4⟩⟩
  ·obtain rfl:k=r.length:=by omega
   gi_wp2
   go_end0
   exact⟨⟨_,rfl⟩,.inl ⟨_,hpre,hJs⟩⟩
theorem zdR(Bs:Nat)(r:List Sd)(a:Option Addr)(cap:Nat)(hlen:r.length≤1000)(w:World)(m:Nat)(hm:1≤m)(hBs:w.cell? ⟨Bs,0,none⟩=some (.slice a r.length cap))(hr:zcp w a r) :
  zla m Tryz.prog 237 #[.pointer (some ⟨Bs,0,none⟩)] (fun x:PlN r.length=>#[.int .i64 (x.1:Nat),.agg (zga (arn r x.1)).toArray]) (Bs::zb0 a) (fun _ _=>True) zsx (fun ys=>UpN r.length ys) (fun pre=>∃ k,k≤r.length∧UpN k pre) w:=fun l J Jx W hW _ hst hY h0=>by
 refine(zo5 m hm l Bs r a cap hlen J Jx hY hst W (ze hW hBs) (hr.q hW) h0).mono ?_
 rintro e W'⟨hv,⟨ys,hys,hJ⟩|⟨pre,hp,hJx⟩⟩
 ·exact⟨hv,.inl ⟨_,hys,hJ⟩⟩
 ·exact⟨hv,.inr ⟨pre,hp,hJx⟩⟩
end Go.Proofs.YtbpghkdadajomaaGreatDoor
