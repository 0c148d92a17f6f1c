/-
  Walks of package plan: corners, vectors, ranges, the iterator over the sides of a ring.
-/
import Derived.Test.YtjnhmfcklodfdaaGreatDoorIV10
set_option maxRecDepth 100000
set_option maxHeartbeats 4000000
namespace Go.Proofs.YtjnhmfcklodfdaaGreatDoor
open Go.RowKit Kp
theorem zgP{a b:Int}(ha:-131072≤a∧a≤131072)(hb:-131072≤b∧b≤131072):-17179869184≤a*b∧a*b≤17179869184:=by
 have h1:a.natAbs≤131072:=by omega
 have h2:b.natAbs≤131072:=by omega
 have h3:=Nat.mul_le_mul h1 h2
 rw[← Int.natAbs_mul]at h3
 omega
theorem zli{fn:Func}{m:Tmp}(hf:fn.results=#[.cell m 282])(tmps:Array Value)(W:World)(b:Nat)(x y:Value)(hp:tmps.getD m undef=.pointer (some ⟨b,0,none⟩))
  (c0:W.cell? ⟨b,0,none⟩=some x)(c1:W.cell? ⟨b,1,none⟩=some y) :
  (results fn tmps).run Tryz.prog W=.ok (.agg #[x,y]) W:=by
 simp only[Array.getD_eq_getD_getElem?]at hp
 simp[results,hf,go_sem,hp,c0,c1]
theorem zaX(x y rise run:Int)(g:Bool)(p o:Int)(w:World) :
  CR 211 #[.agg #[.int .i64 x,.int .i64 y,.int .i64 rise,.int .i64 run,.bool g,.int .i64 p,.int .i64 o]] w (.agg #[.int .i64 x,.int .i64 y]):=by
 go_enter Tryz.func211,Tryz.ntmps211
 go_wp2
 have BB:=Blk.new1 w (.cells #[.int .i64 x,.int .i64 y,.int .i64 rise,.int .i64 run,.bool g,.int .i64 p,.int .i64 o] 93) [.int .i64 x,.int .i64 y] 282
 exact bodyPost_ret (v:=.agg #[.int .i64 x,.int .i64 y]) (zli Tryz.results211 _ _ (w.heap.size+1) _ _ rfl (BB.cell 0) (BB.cell 1)) rfl ⟨rfl,bt⟩
theorem znF(x y u v:Int)(hx:-4294967296≤x∧x≤4294967296)(hy:-4294967296≤y∧y≤4294967296)(hu:-4294967296≤u∧u≤4294967296)(hv:-4294967296≤v∧v≤4294967296)(w:World) :
  CR 212 #[.agg #[.int .i64 x,.int .i64 y],.agg #[.int .i64 u,.int .i64 v]] w (.agg #[.int .i64 (u - x),.int .i64 (v - y)]):=by
 have w1:=Go.IntWalk.i64_in (u - x) (by omega)
 have w2:=Go.IntWalk.i64_in (v - y) (by omega)
 go_enter Tryz.func212,Tryz.ntmps212
 go_wp2
 have BB:=Blk.new2 w (.cells #[.int .i64 x,.int .i64 y] 282) (.cells #[.int .i64 u,.int .i64 v] 282) [.int .i64 (u - x),.int .i64 (v - y)] 282
 exact bodyPost_ret (v:=.agg #[.int .i64 (u - x),.int .i64 (v - y)]) (zli Tryz.results212 _ _ (w.heap.size+2) _ _ rfl (BB.cell 0) (BB.cell 1)) rfl ⟨rfl,bt⟩
theorem zkB(x y u v:Int)(hx:-131072≤x∧x≤131072)(hy:-131072≤y∧y≤131072)(hu:-131072≤u∧u≤131072)(hv:-131072≤v∧v≤131072)(w:World) :
  CR 260 #[.agg #[.int .i64 x,.int .i64 y],.agg #[.int .i64 u,.int .i64 v]] w (.int .i64 (zfo x y u v)):=by
 have m1:=zgP hx hv
 have m2:=zgP hy hu
 unfold zfo
 have w1:=Go.IntWalk.i64_in (x*v) (by omega)
 have w2:=Go.IntWalk.i64_in (y*u) (by omega)
 have w3:=Go.IntWalk.i64_in (x*v - y*u) (by omega)
 clear m1 m2
 go_enter Tryz.func260,Tryz.ntmps260
 go_wp2
 go_ret
 exact⟨rfl,bt⟩
theorem ze7(n a b:Int)(w:World) :
  CR 208 #[.int .i64 n,.int .i64 a,.int .i64 b] w (.bool (decide (a≤n) && decide (n≤b))):=by
 go_enter Tryz.func208,Tryz.ntmps208
 by_cases h1:a≤n
 ·rw[decide_eq_true h1,Bool.true_and]
  go_wp2
  go_ret
  exact⟨rfl,Q.refl _⟩
 ·rw[decide_eq_false h1,Bool.false_and]
  go_wp2
  go_ret
  exact⟨rfl,Q.refl _⟩
structure ArnOk (a:Arn):Prop where
 b:0≤a.b.x∧a.b.x≤65536∧0≤a.b.y∧a.b.y≤65536
 o:0≤a.o.x∧a.o.x≤65536∧0≤a.o.y∧a.o.y≤65536
 h:0≤a.h.x∧a.h.x≤65536∧0≤a.h.y∧a.h.y≤65536
theorem zlp(a:Arn)(ok:ArnOk a)(w:World) :
  CR 213 #[.agg (zgk a).toArray] w (.agg #[.int .i64 a.wx,.int .i64 a.wy]):=by
 obtain⟨b,o,h⟩:=a
 obtain⟨kb,ko,kh⟩:=ok
 unfold Arn.wx Arn.wy zgk sdC
 simp only at *
 have HO:=LH (fun w=>zaX o.x o.y o.rise o.run o.gable o.plate o.over w)
 have HH:=LH (fun w=>zaX h.x h.y h.rise h.run h.gable h.plate h.over w)
 have HT:=LH (fun w=>znF o.x o.y h.x h.y (by omega) (by omega) (by omega) (by omega) w)
 clear kb ko kh
 go_enter Tryz.func213,Tryz.ntmps213
 go_wp2_with fail
 have A:=(Blk.new w [.int .i64 b.x,.int .i64 b.y,.int .i64 b.rise,.int .i64 b.run,.bool b.gable,.int .i64 b.plate,.int .i64 b.over,.int .i64 o.x,.int .i64 o.y,.int .i64 o.rise,.int .i64 o.run,.bool o.gable,.int .i64 o.plate,.int .i64 o.over,.int .i64 h.x,.int .i64 h.y,.int .i64 h.rise,.int .i64 h.run,.bool h.gable,.int .i64 h.plate,.int .i64 h.over] 280).alloc (.cells #[.int .i64 0,.int .i64 0] 282)
 have S:=Blk.new1 w (.cells #[.int .i64 b.x,.int .i64 b.y,.int .i64 b.rise,.int .i64 b.run,.bool b.gable,.int .i64 b.plate,.int .i64 b.over,.int .i64 o.x,.int .i64 o.y,.int .i64 o.rise,.int .i64 o.run,.bool o.gable,.int .i64 o.plate,.int .i64 o.over,.int .i64 h.x,.int .i64 h.y,.int .i64 h.rise,.int .i64 h.run,.bool h.gable,.int .i64 h.plate,.int .i64 h.over] 280) [.int .i64 0,.int .i64 0] 282
 obtain⟨W0,hW0⟩:∃ W0,((w.alloc (.cells #[.int .i64 b.x,.int .i64 b.y,.int .i64 b.rise,.int .i64 b.run,.bool b.gable,.int .i64 b.plate,.int .i64 b.over,.int .i64 o.x,.int .i64 o.y,.int .i64 o.rise,.int .i64 o.run,.bool o.gable,.int .i64 o.plate,.int .i64 o.over,.int .i64 h.x,.int .i64 h.y,.int .i64 h.rise,.int .i64 h.run,.bool h.gable,.int .i64 h.plate,.int .i64 h.over] 280)).alloc (.cells #[.int .i64 0,.int .i64 0] 282))=W0:=⟨_,rfl⟩
 have hq0:Q w W0:=by rw[← hW0];exact bt
 rw[hW0]at A S ⊢
 clear hW0
 have d7:=A.drew.cell 7
 have d8:=A.drew.cell 8
 have d9:=A.drew.cell 9
 have d10:=A.drew.cell 10
 have d11:=A.drew.cell 11
 have d12:=A.drew.cell 12
 have d13:=A.drew.cell 13
 have d14:=A.drew.cell 14
 have d15:=A.drew.cell 15
 have d16:=A.drew.cell 16
 have d17:=A.drew.cell 17
 have d18:=A.drew.cell 18
 have d19:=A.drew.cell 19
 have d20:=A.drew.cell 20
 simp only[zs4,zs5]at d7 d8 d9 d10 d11 d12 d13 d14 d15 d16 d17 d18 d19 d20
 have hqd:Q W0 W0.drew:=Below.drew (Q.refl W0)
 refine zm 7 (by kernel_rfl) (by kernel_rfl) rfl ?_
 refine svp 0 ?_
 refine svq 1 rfl (by intro w' hq;have hc0:=za hq d7;have hc1:=za hq d8;have hc2:=za hq d9;have hc3:=za hq d10;have hc4:=za hq d11;have hc5:=za hq d12;have hc6:=za hq d13;go_simp;try with_reducible rfl) ?_
 refine zh (i:=2) (v:=_) rfl rfl (by kernel_rfl) (by kernel_rfl) (fun _ _ _ h=>h) (by rfl) ?_ (fun w' hq=>HO.out w') ?_
 ·(intro w' hq;go_simp;try with_reducible rfl)
 simp only[Act.put,zs1,zs2,zs3]
 refine svp 3 ?_
 refine svq 4 rfl (by intro w' hq;have hc0:=za hq d14;have hc1:=za hq d15;have hc2:=za hq d16;have hc3:=za hq d17;have hc4:=za hq d18;have hc5:=za hq d19;have hc6:=za hq d20;go_simp;try with_reducible rfl) ?_
 refine zh (i:=5) (v:=_) rfl rfl (by kernel_rfl) (by kernel_rfl) (fun _ _ _ h=>h) (by rfl) ?_ (fun w' hq=>HH.out w') ?_
 ·(intro w' hq;go_simp;try with_reducible rfl)
 simp only[Act.put,zs1,zs2,zs3]
 refine zh (i:=6) (v:=_) rfl rfl (by kernel_rfl) (by kernel_rfl) (fun _ _ _ h=>h) (by rfl) ?_ (fun w' hq=>HT.out w') ?_
 ·(intro w' hq;go_simp;try with_reducible rfl)
 simp only[Act.put,zs1,zs2,zs3]
 refine zi (by kernel_rfl) (fun w3 hq3=>?_)
 simp only[List.drop_succ_cons,List.drop_zero]
 have hqq:Q W0 w3:=Q.trans hqd hq3
 have hQ3:Q w w3:=Q.trans hq0 hqq
 replace S:=S.keep hqq S.lt
 have lS:=S.lt
 have s0:=S.cell 0
 have f0:=S.frozen 0
 have s1:=S.cell 1
 have f1:=S.frozen 1
 simp only[zs4,zs5]at s0 s1
 have S':=(S.set 0 (.int .i64 (h.x - o.x))).set 1 (.int .i64 (h.y - o.y))
 simp only[List.set_cons_zero,List.set_cons_succ]at S'
 have hQ4:=(hQ3.setCell (p:=⟨w.heap.size+1,0,none⟩) (by simp) (.int .i64 (h.x - o.x))).setCell (p:=⟨w.heap.size+1,1,none⟩) (by simp) (.int .i64 (h.y - o.y))
 clear A d7 d8 d9 d10 d11 d12 d13 d14 d15 d16 d17 d18 d19 d20
 go_wp2
 exact bodyPost_ret (v:=.agg #[.int .i64 (h.x - o.x),.int .i64 (h.y - o.y)]) (zli Tryz.results213 _ _ (w.heap.size+1) _ _ rfl (S'.cell 0) (S'.cell 1)) rfl ⟨rfl,hQ4⟩
theorem zqR(a:Arn)(ok:ArnOk a)(w:World) :
  CR 218 #[.agg (zgk a).toArray] w (.bool (zq3 a)):=by
 have HW:=LH (fun w=>zlp a ok w)
 obtain⟨⟨x1,y1,r1,n1,g1,p1,q1⟩,⟨x2,y2,r2,n2,g2,p2,q2⟩,⟨x3,y3,r3,n3,g3,p3,q3⟩⟩:=a
 obtain⟨kb,ko,kh⟩:=ok
 unfold zq3
 unfold Arn.wx Arn.wy zgk sdC at *
 unfold Arn.vx Arn.vy
 simp only at *
 have HB:=LH (fun w=>zaX x1 y1 r1 n1 g1 p1 q1 w)
 have HO:=LH (fun w=>zaX x2 y2 r2 n2 g2 p2 q2 w)
 have HT:=LH (fun w=>znF x1 y1 x2 y2 (by omega) (by omega) (by omega) (by omega) w)
 have HC:=LH (fun w=>zkB (x2 - x1) (y2 - y1) (x3 - x2) (y3 - y2) (by omega) (by omega) (by omega) (by omega) w)
 generalize zfo (x2 - x1) (y2 - y1) (x3 - x2) (y3 - y2)=cr at *
 clear kb ko kh
 go_enter Tryz.func218,Tryz.ntmps218
 go_wp2_with fail
 have A:=Blk.new w [.int .i64 x1,.int .i64 y1,.int .i64 r1,.int .i64 n1,.bool g1,.int .i64 p1,.int .i64 q1,.int .i64 x2,.int .i64 y2,.int .i64 r2,.int .i64 n2,.bool g2,.int .i64 p2,.int .i64 q2,.int .i64 x3,.int .i64 y3,.int .i64 r3,.int .i64 n3,.bool g3,.int .i64 p3,.int .i64 q3] 280
 obtain⟨W0,hW0⟩:∃ W0,w.alloc (.cells #[.int .i64 x1,.int .i64 y1,.int .i64 r1,.int .i64 n1,.bool g1,.int .i64 p1,.int .i64 q1,.int .i64 x2,.int .i64 y2,.int .i64 r2,.int .i64 n2,.bool g2,.int .i64 p2,.int .i64 q2,.int .i64 x3,.int .i64 y3,.int .i64 r3,.int .i64 n3,.bool g3,.int .i64 p3,.int .i64 q3] 280)=W0:=⟨_,rfl⟩
 have hq0:Q w W0:=by rw[← hW0];exact bt
 rw[hW0]at A ⊢
 clear hW0
 have d0:=A.drew.cell 0
 have d1:=A.drew.cell 1
 have d2:=A.drew.cell 2
 have d3:=A.drew.cell 3
 have d4:=A.drew.cell 4
 have d5:=A.drew.cell 5
 have d6:=A.drew.cell 6
 have d7:=A.drew.cell 7
 have d8:=A.drew.cell 8
 have d9:=A.drew.cell 9
 have d10:=A.drew.cell 10
 have d11:=A.drew.cell 11
 have d12:=A.drew.cell 12
 have d13:=A.drew.cell 13
 have d14:=A.drew.cell 14
 have d15:=A.drew.cell 15
 have d16:=A.drew.cell 16
 have d17:=A.drew.cell 17
 have d18:=A.drew.cell 18
 have d19:=A.drew.cell 19
 have d20:=A.drew.cell 20
 simp only[zs4,zs5]at d0 d1 d2 d3 d4 d5 d6 d7 d8 d9 d10 d11 d12 d13 d14 d15 d16 d17 d18 d19 d20
 have hqd:Q W0 W0.drew:=Below.drew (Q.refl W0)
 refine zm 12 (by kernel_rfl) (by kernel_rfl) rfl ?_
 refine svp 0 ?_
 refine svq 1 rfl (by intro w' hq;have hc0:=za hq d0;have hc1:=za hq d1;have hc2:=za hq d2;have hc3:=za hq d3;have hc4:=za hq d4;have hc5:=za hq d5;have hc6:=za hq d6;go_simp;try with_reducible rfl) ?_
 refine zh (i:=2) (v:=_) rfl rfl (by kernel_rfl) (by kernel_rfl) (fun _ _ _ h=>h) (by rfl) ?_ (fun w' hq=>HB.out w') ?_
 ·(intro w' hq;go_simp;try with_reducible rfl)
 simp only[Act.put,zs1,zs2,zs3]
 refine svp 3 ?_
 refine svq 4 rfl (by intro w' hq;have hc0:=za hq d7;have hc1:=za hq d8;have hc2:=za hq d9;have hc3:=za hq d10;have hc4:=za hq d11;have hc5:=za hq d12;have hc6:=za hq d13;go_simp;try with_reducible rfl) ?_
 refine zh (i:=5) (v:=_) rfl rfl (by kernel_rfl) (by kernel_rfl) (fun _ _ _ h=>h) (by rfl) ?_ (fun w' hq=>HO.out w') ?_
 ·(intro w' hq;go_simp;try with_reducible rfl)
 simp only[Act.put,zs1,zs2,zs3]
 refine zh (i:=6) (v:=_) rfl rfl (by kernel_rfl) (by kernel_rfl) (fun _ _ _ h=>h) (by rfl) ?_ (fun w' hq=>HT.out w') ?_
 ·(intro w' hq;go_simp;try with_reducible rfl)
 simp only[Act.put,zs1,zs2,zs3]
 refine zU (i:=7) (v:=_) rfl rfl (by kernel_rfl) (by kernel_rfl) (fun _ _ _ h=>h) (by rfl) (fun w' hq=>zda 280 (.tmp 1) rfl w.heap.size rfl (A.keep (Q.trans hqd hq) A.lt) _ Tryz.underlying280 rfl (by kernel_rfl)) ?_
 simp only[Act.put,zs1,zs2,zs3]
 refine zh (i:=8) (v:=_) rfl rfl (by kernel_rfl) (by kernel_rfl) (fun _ _ _ h=>h) (by rfl) ?_ (fun w' hq=>HW.out w') ?_
 ·(intro w' hq;go_simp;try with_reducible rfl)
 simp only[Act.put,zs1,zs2,zs3]
 refine zh (i:=9) (v:=_) rfl rfl (by kernel_rfl) (by kernel_rfl) (fun _ _ _ h=>h) (by rfl) ?_ (fun w' hq=>HC.out w') ?_
 ·(intro w' hq;go_simp;try with_reducible rfl)
 simp only[Act.put,zs1,zs2,zs3]
 refine svp 10 ?_
 refine svp 11 ?_
 refine zi (by kernel_rfl) (fun w3 hq3=>?_)
 simp only[List.drop_succ_cons,List.drop_nil]
 have hQ3:Q w w3:=Q.trans hq0 (Q.trans hqd hq3)
 clear A d0 d1 d2 d3 d4 d5 d6 d7 d8 d9 d10 d11 d12 d13 d14 d15 d16 d17 d18 d19 d20
 go_wp2
 go_ret
 exact⟨rfl,hQ3⟩
theorem zd9(a:Option Addr)(n cap:Nat)(w:World) :
  Calls Tryz.prog 210 #[.slice a n cap] w fun e w'=>e=.returned (.func (.func 259) #[] #[.pointer (some ⟨w.heap.size,0,none⟩)])∧w'=w.alloc (.cells #[.slice a n cap] 95):=by
 go_enter Tryz.func210,Tryz.ntmps210
 go_wp2
 go_ret
 exact⟨rfl,rfl⟩
def zcw(w:World)(a:Option Addr)(r:List Sd):Prop:=∀ i,i<r.length→∃ b o,a=some ⟨b,o,none⟩∧∀ j u,(sdC (zcN r i))[j]? = some u→w.cell? ⟨b,o+i*7+j,none⟩=some u
def zb1:Option Addr→List Nat
 | none=>[]
 | some a=>[a.block]
theorem zcw.keepB{w w':World}{a:Option Addr}{r:List Sd}(h:zcw w a r){bs:List Nat}(hk:zN bs w w')(hb:∀ k∈zb1 a,k∈bs):zcw w' a r:=fun i hi=>by
 obtain⟨b,o,rfl,hc⟩:=h i hi
 exact⟨b,o,rfl,fun j u hu=>hk.cell (hb b (by simp[zb1])) (hc j u hu)⟩
theorem zcw.q{w w':World}{a:Option Addr}{r:List Sd}(h:zcw w a r)(hq:Q w w'):zcw w' a r:=fun i hi=>by
 obtain⟨b,o,ha,hc⟩:=h i hi
 exact⟨b,o,ha,fun j u hu=>za hq (hc j u hu)⟩
theorem zgr{r:List Sd}{i:Nat}(h:i<r.length):zcN r i=r[i]:=by unfold zcN;rw[List.getD_eq_getElem?_getD,List.getElem?_eq_getElem h];rfl
theorem zdc.at{w:World}{a:Option Addr}{n cap:Nat}{r:List Sd}(h:zdc 7 sdC w (.slice a n cap) r):n=r.length∧zcw w a r∧(∀ k∈zb1 a,0<r.length→k<w.heap.size):=by
 obtain⟨a',c',he,hc⟩:=h
 injection he with e1 e2 e3
 subst e1
 refine⟨e2,fun i hi=>?_,fun k hk h0=>?_⟩
 ·obtain⟨b,o,ha,hb,h⟩:=hc i hi
  exact⟨b,o,ha,by rw[zgr hi];exact h⟩
 ·obtain⟨b,o,rfl,hb,h⟩:=hc 0 h0
  simp[zb1]at hk
  omega
theorem zqu(m:Nat)(hm:1≤m)(l Bs:Nat)(r:List Sd)(a:Option Addr)(cap:Nat)(hlen:r.length≤1000)(J Jx:List (PlN r.length)→World→Prop)
  (hY:∀ pre x W,J pre W→zuy pre x→YieldAt Fence.wide (m - 1) Tryz.prog l #[.int .i64 (x.1:Nat),.agg (zgk (arn r x.1)).toArray] W fun e W' =>
   (e=.returned (.bool true)∧J (pre++[x]) W'∧zN (Bs::zb1 a) W W')∨(e=.returned (.bool false)∧Jx (pre++[x]) W'))
  (hst:∀ pre W W',J pre W→Q W W'→J pre W') (W:World) (hBs:W.cell? ⟨Bs,0,none⟩=some (.slice a r.length cap)) (hr:zcw W a r) (h0:J [] W) :
  CallsIn Fence.wide m Tryz.prog 259 #[.func (.yield l) #[] #[],.pointer (some ⟨Bs,0,none⟩)] W fun e W'=>(∃ v,e=.returned v) ∧
   ((∃ ys,UpN r.length ys∧J ys W')∨(∃ pre,(∃ k,k≤r.length∧UpN k pre)∧Jx pre W')):=by
 refine callsIn_of_wp Tryz.func259 rfl trivial ?_ rfl
 simp only[Tryz.ntmps259,List.size_toArray,List.length_cons,List.length_nil,Nat.reduceAdd,Nat.reduceSub,Array.replicate_succ,Array.replicate_zero,List.push_toArray,List.append_toArray,List.nil_append,List.cons_append]
 have HR:=LH hr
 clear hr
 gi_wp2
 gi_loopw [9] (fun i wr=>∃ k:Nat,k≤r.length∧i=.int .i64 k∧(∃ pre,UpN k pre∧J pre wr)∧zN (Bs::zb1 a) W wr) (fun i _=>r.length - (intOf i).toNat)
 case atStart=>exact⟨0,Nat.zero_le _,by simp,⟨[],rfl,h0⟩,zN.refl _ _⟩
 case round =>
  obtain⟨k,hk,rfl,⟨pre,hpre,hJs⟩,hnx⟩:=hrel
  have hBs2:=hnx.cell (by simp) hBs
  have hrw:=HR.out.keepB hnx (fun k hk=>by simp[hk])
  by_cases hlt:k<r.length
  ·have hmix:Tryz.prog.follows .mixedOrders=true:=by kernel_rfl
   have hYk:=hY pre ⟨k,hlt⟩
   have hnext:=hpre.next ⟨k,hlt⟩ rfl
   have hpl:=hpre.len
   obtain⟨b,o,rfl,-⟩:=hrw k hlt
   have hcc:∀ i,i<r.length→∀ j u,(sdC (zcN r i))[j]? = some u→wr.drew.cell? ⟨b,o+i*7+j,none⟩=some u:=fun i hi j u hu=>by
    obtain⟨b',o',e,hc⟩:=hrw i hi
    injection e with e
    injection e with e1 e2
    subst e1 e2
    exact hc j u hu
   obtain⟨p,hp⟩:∃ p,(k+r.length - 1) % r.length=p:=⟨_,rfl⟩
   obtain⟨q,hq'⟩:∃ q,(k+1) % r.length=q:=⟨_,rfl⟩
   have hpl':p<r.length:=by rw[← hp];exact Nat.mod_lt _ (by omega)
   have hql':q<r.length:=by rw[← hq'];exact Nat.mod_lt _ (by omega)
   have e1:((k:Int)+(r.length:Int) - 1).tmod (r.length:Int)=(p:Int):=by
    rw[Int.tmod_eq_emod_of_nonneg (by omega),show ((k:Int)+(r.length:Int) - 1)=((k+r.length - 1:Nat):Int) by omega,← hp];exact(Int.natCast_emod _ _).symm
   have e2:((k:Int)+1).tmod (r.length:Int)=(q:Int):=by
    rw[Int.tmod_eq_emod_of_nonneg (by omega),show ((k:Int)+1)=((k+1:Nat):Int) by omega,← hq'];exact(Int.natCast_emod _ _).symm
   have c1:=hcc p hpl'
   have c2:=hcc k hlt
   have c3:=hcc q hql'
   have hyk:=hYk
   unfold arn at hyk
   simp only[hp,hq']at hyk
   clear hYk hcc
   generalize zcN r p=s1 at *
   generalize zcN r k=s2 at *
   generalize zcN r q=s3 at *
   have d10:wr.drew.cell? ⟨b,o+p*7,none⟩=some (.int .i64 s1.x):=c1 0 _ rfl
   have d11:wr.drew.cell? ⟨b,o+p*7+1,none⟩=some (.int .i64 s1.y):=c1 1 _ rfl
   have d12:wr.drew.cell? ⟨b,o+p*7+2,none⟩=some (.int .i64 s1.rise):=c1 2 _ rfl
   have d13:wr.drew.cell? ⟨b,o+p*7+3,none⟩=some (.int .i64 s1.run):=c1 3 _ rfl
   have d14:wr.drew.cell? ⟨b,o+p*7+4,none⟩=some (.bool s1.gable):=c1 4 _ rfl
   have d15:wr.drew.cell? ⟨b,o+p*7+5,none⟩=some (.int .i64 s1.plate):=c1 5 _ rfl
   have d16:wr.drew.cell? ⟨b,o+p*7+6,none⟩=some (.int .i64 s1.over):=c1 6 _ rfl
   have d20:wr.drew.cell? ⟨b,o+k*7,none⟩=some (.int .i64 s2.x):=c2 0 _ rfl
   have d21:wr.drew.cell? ⟨b,o+k*7+1,none⟩=some (.int .i64 s2.y):=c2 1 _ rfl
   have d22:wr.drew.cell? ⟨b,o+k*7+2,none⟩=some (.int .i64 s2.rise):=c2 2 _ rfl
   have d23:wr.drew.cell? ⟨b,o+k*7+3,none⟩=some (.int .i64 s2.run):=c2 3 _ rfl
   have d24:wr.drew.cell? ⟨b,o+k*7+4,none⟩=some (.bool s2.gable):=c2 4 _ rfl
   have d25:wr.drew.cell? ⟨b,o+k*7+5,none⟩=some (.int .i64 s2.plate):=c2 5 _ rfl
   have d26:wr.drew.cell? ⟨b,o+k*7+6,none⟩=some (.int .i64 s2.over):=c2 6 _ rfl
   have d30:wr.drew.cell? ⟨b,o+q*7,none⟩=some (.int .i64 s3.x):=c3 0 _ rfl
   have d31:wr.drew.cell? ⟨b,o+q*7+1,none⟩=some (.int .i64 s3.y):=c3 1 _ rfl
   have d32:wr.drew.cell? ⟨b,o+q*7+2,none⟩=some (.int .i64 s3.rise):=c3 2 _ rfl
   have d33:wr.drew.cell? ⟨b,o+q*7+3,none⟩=some (.int .i64 s3.run):=c3 3 _ rfl
   have d34:wr.drew.cell? ⟨b,o+q*7+4,none⟩=some (.bool s3.gable):=c3 4 _ rfl
   have d35:wr.drew.cell? ⟨b,o+q*7+5,none⟩=some (.int .i64 s3.plate):=c3 5 _ rfl
   have d36:wr.drew.cell? ⟨b,o+q*7+6,none⟩=some (.int .i64 s3.over):=c3 6 _ rfl
   have dB:wr.drew.cell? ⟨Bs,0,none⟩=some (.slice (some ⟨b,o,none⟩) r.length cap):=hBs2
   have hk0:(0:Int)≤k:=by omega
   have hkl:(k:Int)<r.length:=by omega
   have hln:(r.length:Int)≤1000:=by omega
   have hn0:(0:Int)<r.length:=by omega
   have hp0:(0:Int)≤p:=by omega
   have hpz:(p:Int)<r.length:=by omega
   have hq0:(0:Int)≤q:=by omega
   have hqz:(q:Int)<r.length:=by omega
   have hne:¬ r=[]:=fun h=>by
    have:=congrArg List.length h
    simp only[List.length_nil]at this
    omega
   have w1:=Go.IntWalk.i64_in ((k:Int)+r.length) (by omega)
   have w2:=Go.IntWalk.i64_in ((k:Int)+r.length - 1) (by omega)
   have w3:=Go.IntWalk.i64_in ((k:Int)+1) (by omega)
   have w4:=Go.IntWalk.i64_in (p:Int) (by omega)
   have w5:=Go.IntWalk.i64_in (q:Int) (by omega)
   have HYK:=LH hyk
   clear c1 c2 c3 hyk hp hq'
   gi_wp2
   refine RT.zaO 23 hmix (by kernel_rfl) rfl ?_
   refine RT.svp 0 ?_
   refine RT.svp 1 ?_
   refine RT.svq 2 rfl (by intro w' hq;have hc0:=za hq dB;go_simp;try with_reducible rfl) ?_
   refine RT.svp 3 ?_
   refine RT.svp 4 ?_
   refine RT.svp 5 ?_
   refine RT.svp 6 ?_
   refine RT.svp 7 ?_
   refine RT.svp 8 ?_
   refine RT.svp 9 ?_
   refine RT.svq 10 rfl (by intro w' hq;have hc0:=za hq d10;have hc1:=za hq d11;have hc2:=za hq d12;have hc3:=za hq d13;have hc4:=za hq d14;have hc5:=za hq d15;have hc6:=za hq d16;go_simp;try with_reducible rfl) ?_
   refine RT.svq 11 rfl (by intro w' hq;have hc0:=za hq dB;go_simp;try with_reducible rfl) ?_
   refine RT.svp 12 ?_
   refine RT.svp 13 ?_
   refine RT.svq 14 rfl (by intro w' hq;have hc0:=za hq d20;have hc1:=za hq d21;have hc2:=za hq d22;have hc3:=za hq d23;have hc4:=za hq d24;have hc5:=za hq d25;have hc6:=za hq d26;go_simp;try with_reducible rfl) ?_
   refine RT.svq 15 rfl (by intro w' hq;have hc0:=za hq dB;go_simp;try with_reducible rfl) ?_
   refine RT.svp 16 ?_
   refine RT.svp 17 ?_
   refine RT.svp 18 ?_
   refine RT.svp 19 ?_
   refine RT.svp 20 ?_
   refine RT.svq 21 rfl (by intro w' hq;have hc0:=za hq d30;have hc1:=za hq d31;have hc2:=za hq d32;have hc3:=za hq d33;have hc4:=za hq d34;have hc5:=za hq d35;have hc6:=za hq d36;go_simp;try with_reducible rfl) ?_
   refine RT.svp 22 ?_
   refine RT.zi (by kernel_rfl) (fun w3 hq3=>?_)
   simp only[List.drop_succ_cons,List.drop_zero]
   have hqq:Q wr w3:=Q.trans (Below.drew (Q.refl wr)) hq3
   have hnx3:zN (Bs::zb1 (some ⟨b,o,none⟩)) W w3:=hnx.trans (zN.q hqq)
   have hJ3:=hst _ _ _ hJs hqq
   have hYK:=HYK.out w3 hJ3 hpl.symm
   obtain⟨fn,tmps,assign,body,hy,hR⟩:=hYK
   unfold zgk sdC at hy
   simp only[List.cons_append,List.nil_append]at hy
   clear hrw HR dB d10 d11 d12 d13 d14 d15 d16 d20 d21 d22 d23 d24 d25 d26 d30 d31 d32 d33 d34 d35 d36
   gi_wp2
   refine hR.mono ?_
   rintro e W3 (⟨rfl,hJ4,hk4⟩|⟨rfl,hJx4⟩)
   ·gi_wp2
    go_roundw
    case rel=>exact⟨k+1,by omega,by go_num,⟨_,hnext,hJ4⟩,hnx3.trans hk4⟩
    case measure=>simp[intOf];omega
   ·gi_wp2
    refine bodyPost_ret (results_none rfl _ _ _) rfl ?_
    exact⟨⟨_,rfl⟩,.inr ⟨_,⟨k+1,by omega,hnext⟩,hJx4⟩⟩
  ·obtain rfl:k=r.length:=by omega
   gi_wp2
   go_end0
   exact⟨⟨_,rfl⟩,.inl ⟨_,hpre,hJs⟩⟩
theorem zd3(Bs:Nat)(r:List Sd)(a:Option Addr)(cap:Nat)(hlen:r.length≤1000)(w:World)(m:Nat)(hm:1≤m)(hBs:w.cell? ⟨Bs,0,none⟩=some (.slice a r.length cap))(hr:zcw w a r) :
  zl8 m Tryz.prog 259 #[.pointer (some ⟨Bs,0,none⟩)] (fun x:PlN r.length=>#[.int .i64 (x.1:Nat),.agg (zgk (arn r x.1)).toArray]) (Bs::zb1 a) (fun _ _=>True) zuy (fun ys=>UpN r.length ys) (fun pre=>∃ k,k≤r.length∧UpN k pre) w:=fun l J Jx W hW _ hst hY h0=>by
 refine(zqu m hm l Bs r a cap hlen J Jx hY hst W (za hW hBs) (hr.q hW) h0).mono ?_
 rintro e W'⟨hv,⟨ys,hys,hJ⟩|⟨pre,hp,hJx⟩⟩
 ·exact⟨hv,.inl ⟨_,hys,hJ⟩⟩
 ·exact⟨hv,.inr ⟨pre,hp,hJx⟩⟩
end Go.Proofs.YtjnhmfcklodfdaaGreatDoor
