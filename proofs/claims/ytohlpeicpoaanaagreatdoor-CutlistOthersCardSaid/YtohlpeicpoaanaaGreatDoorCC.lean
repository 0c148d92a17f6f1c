/-
  Walks of package cutlist: the order of pieces.
-/
import Derived.Test.YtohlpeicpoaanaaGreatDoorCB
import Derived.Sort.Grow
import Derived.Deep.WholeRow
namespace Go.Proofs.YtohlpeicpoaanaaGreatDoor
open Go.RowKit Kp Go.Sort
def grR:Rel where
 r:=fun a c=>∃ (q:Nat) (os:Array Obj),c=grow (a.drewN q) os
 refl:=fun w=>⟨0,#[],by rw [grow_empty]; rfl⟩
 trans:=fun {a b c} h k=>by
  obtain ⟨q,os,rfl⟩:=h
  obtain ⟨q2,os2,rfl⟩:=k
  refine ⟨q+q2,os++os2,?_⟩
  show grow (grow ((a.drewN q).drewN q2) os) os2=_
  rw [grow_grow,World.drewN_drewN]
theorem gr_drew (w:World):grR.r w w.drew:=⟨1,#[],by rw [grow_empty]; rfl⟩
theorem gr_alloc (w:World) (o:Obj):grR.r w (w.alloc o):=⟨0,#[o],by rw [← alloc_eq_grow]; rfl⟩
theorem gr_q {w w':World} (h:grR.r w w'):Q w w':=by
 obtain ⟨q,os,rfl⟩:=h
 refine ⟨rfl,rfl,rfl,?_,fun k hk=>?_⟩
 ·show w.heap.size≤(w.heap++os).size
  rw [Array.size_append]; omega
 ·show (w.heap++os)[k]?=w.heap[k]?
  rw [Array.getElem?_append_left hk]
theorem gcell {w w':World} (h:grR.r w w') {p:Addr} {v:Value} (hc:w.cell? p=some v):w'.cell? p=some v:=qcell (gr_q h) hc
theorem gr_call {P:Program} {k:Nat} {args:Array Value} {w:World} {v:Value} (h:Calls P k args w fun e w'=>e=.returned v∧w=w'):Calls P k args w fun e w'=>e=.returned v∧grR.r w w' :=
 h.mono fun e w' ⟨he,hw⟩=>⟨he,by rw [← hw]; exact grR.refl _⟩
def Fst (w:World) (v:Value) (m:Int):Prop:=∃ (b o n cap:Nat),v=.slice (some ⟨b,o,none⟩) n cap∧0<n∧w.cell? ⟨b,o,none⟩=some (.int .i64 m)
theorem Fst.keep {w w':World} {v:Value} {m:Int} (h:Fst w v m) (hq:Q w w'):Fst w' v m:=by
 obtain ⟨b,o,n,cap,rfl,hn,hc⟩:=h
 exact ⟨b,o,n,cap,rfl,hn,qcell hq hc⟩
theorem NumSl.fst {w:World} {v:Value} {l:List Int} (h:NumSl w v l) (h0:0<l.length):Fst w v (atI l 0):=by
 obtain ⟨a,cap,rfl,-⟩:=id h
 obtain ⟨b,o,rfl,hb,hc⟩:=h.cell.2 0 h0
 exact ⟨b,o,_,cap,rfl,h0,hc⟩
def ctC (x:Ct) (v:Value):List Value:=[.int .i64 x.w,.int .i64 x.d,.int .i64 x.n,v]
set_option maxRecDepth 100000 in
set_option maxHeartbeats 2000000 in
theorem cut_order (x y:Ct) (v1 v2:Value) (w:World) (h1:Fst w v1 (atI x.ms 0)) (h2:Fst w v2 (atI y.ms 0)) :
  Calls Tryz.prog 31 #[.agg (ctC x v1).toArray,.agg (ctC y v2).toArray] w fun e w'=>e=.returned (.int .i64 (ordF x y))∧grR.r w w':=by
 obtain ⟨b,o,n,cap,rfl,hn,hc1⟩:=h1
 obtain ⟨b',o',n',cap',rfl,hn',hc2⟩:=h2
 unfold ordF ctC
 have H1:=LH (fun w=>cmp_Compare x.w y.w w)
 have H2:=LH (fun w=>cmp_Compare x.d y.d w)
 have H3:=LH (fun w=>cmp_Compare y.n x.n w)
 have H4:=LH (fun w=>cmp_Compare (atI x.ms 0) (atI y.ms 0) w)
 generalize Lib.compareInt x.w y.w=c1 at *
 generalize Lib.compareInt x.d y.d=c2 at *
 generalize Lib.compareInt y.n x.n=c3 at *
 generalize Lib.compareInt (atI x.ms 0) (atI y.ms 0)=c4 at *
 generalize atI x.ms 0=m1 at *
 generalize atI y.ms 0=m2 at *
 generalize x.w=x1 at *
 generalize x.d=x2 at *
 generalize x.n=x3 at *
 generalize y.w=y1 at *
 generalize y.d=y2 at *
 generalize y.n=y3 at *
 have hnz:(0:Int)<n:=by omega
 have hnz':(0:Int)<n':=by omega
 have HO:=LH (fun b t w h=>cmp_Or c1 c2 c3 c4 b t w h)
 generalize orF [c1,c2,c3,c4]=r at *
 go_enter Tryz.func31,Tryz.ntmps31
 go_wp2_with fail
 have B1:=(Blk.new w [.int .i64 x1,.int .i64 x2,.int .i64 x3,.slice (some ⟨b,o,none⟩) n cap] 42).alloc (.cells #[.int .i64 y1,.int .i64 y2,.int .i64 y3,.slice (some ⟨b',o',none⟩) n' cap'] 42)
 have B2:=Blk.new1 w (.cells #[.int .i64 x1,.int .i64 x2,.int .i64 x3,.slice (some ⟨b,o,none⟩) n cap] 42) [.int .i64 y1,.int .i64 y2,.int .i64 y3,.slice (some ⟨b',o',none⟩) n' cap'] 42
 have hg0:=grR.trans (gr_alloc w (.cells #[.int .i64 x1,.int .i64 x2,.int .i64 x3,.slice (some ⟨b,o,none⟩) n cap] 42)) (gr_alloc _ (.cells #[.int .i64 y1,.int .i64 y2,.int .i64 y3,.slice (some ⟨b',o',none⟩) n' cap'] 42))
 replace hc1:=gcell hg0 hc1
 replace hc2:=gcell hg0 hc2
 have p0:=B1.cell 0
 have p1:=B1.cell 1
 have p2:=B1.cell 2
 have p3:=B1.cell 3
 have q0:=B2.cell 0
 have q1:=B2.cell 1
 have q2:=B2.cell 2
 have q3:=B2.cell 3
 simp only [zs4,zs5] at p0 p1 p2 p3 q0 q1 q2 q3
 obtain ⟨W0,hW0⟩:∃ W0,((w.alloc (.cells #[.int .i64 x1,.int .i64 x2,.int .i64 x3,.slice (some ⟨b,o,none⟩) n cap] 42)).alloc (.cells #[.int .i64 y1,.int .i64 y2,.int .i64 y3,.slice (some ⟨b',o',none⟩) n' cap'] 42))=W0:=⟨_,rfl⟩
 rw [hW0] at hg0 hc1 hc2 p0 p1 p2 p3 q0 q1 q2 q3 ⊢
 clear hW0 B1 B2
 refine RE.wp_steadily (ρ:=grR) 24 rfl (by kernel_rfl) rfl ?_
 refine RE.svq 0 rfl (by intro w' hq; go_simp; try with_reducible rfl) ?_
 refine RE.svq 1 rfl (by intro w' hq; have hc0:=gcell hq p0; go_simp; try with_reducible rfl) ?_
 refine RE.svq 2 rfl (by intro w' hq; go_simp; try with_reducible rfl) ?_
 refine RE.svq 3 rfl (by intro w' hq; have hc0:=gcell hq q0; go_simp; try with_reducible rfl) ?_
 refine RE.steadily_call (i:=4) (v:=_) rfl rfl (by kernel_rfl) (by kernel_rfl) (fun _ _ _ h=>h) (by rfl) ?_ (fun w' hq=>gr_call (H1.out w')) ?_
 ·(intro w' hq; go_simp; try with_reducible rfl)
 simp only [Act.put,zs1,zs2,zs3]
 refine RE.svq 5 rfl (by intro w' hq; go_simp; try with_reducible rfl) ?_
 refine RE.svq 6 rfl (by intro w' hq; have hc0:=gcell hq p1; go_simp; try with_reducible rfl) ?_
 refine RE.svq 7 rfl (by intro w' hq; go_simp; try with_reducible rfl) ?_
 refine RE.svq 8 rfl (by intro w' hq; have hc0:=gcell hq q1; go_simp; try with_reducible rfl) ?_
 refine RE.steadily_call (i:=9) (v:=_) rfl rfl (by kernel_rfl) (by kernel_rfl) (fun _ _ _ h=>h) (by rfl) ?_ (fun w' hq=>gr_call (H2.out w')) ?_
 ·(intro w' hq; go_simp; try with_reducible rfl)
 simp only [Act.put,zs1,zs2,zs3]
 refine RE.svq 10 rfl (by intro w' hq; go_simp; try with_reducible rfl) ?_
 refine RE.svq 11 rfl (by intro w' hq; have hc0:=gcell hq q2; go_simp; try with_reducible rfl) ?_
 refine RE.svq 12 rfl (by intro w' hq; go_simp; try with_reducible rfl) ?_
 refine RE.svq 13 rfl (by intro w' hq; have hc0:=gcell hq p2; go_simp; try with_reducible rfl) ?_
 refine RE.steadily_call (i:=14) (v:=_) rfl rfl (by kernel_rfl) (by kernel_rfl) (fun _ _ _ h=>h) (by rfl) ?_ (fun w' hq=>gr_call (H3.out w')) ?_
 ·(intro w' hq; go_simp; try with_reducible rfl)
 simp only [Act.put,zs1,zs2,zs3]
 refine RE.svq 15 rfl (by intro w' hq; go_simp; try with_reducible rfl) ?_
 refine RE.svq 16 rfl (by intro w' hq; have hc0:=gcell hq p3; go_simp; try with_reducible rfl) ?_
 refine RE.svq 17 rfl (by intro w' hq; go_simp; try with_reducible rfl) ?_
 refine RE.svq 18 rfl (by intro w' hq; have hc0:=gcell hq hc1; go_simp; try with_reducible rfl) ?_
 refine RE.svq 19 rfl (by intro w' hq; go_simp; try with_reducible rfl) ?_
 refine RE.svq 20 rfl (by intro w' hq; have hc0:=gcell hq q3; go_simp; try with_reducible rfl) ?_
 refine RE.svq 21 rfl (by intro w' hq; go_simp; try with_reducible rfl) ?_
 refine RE.svq 22 rfl (by intro w' hq; have hc0:=gcell hq hc2; go_simp; try with_reducible rfl) ?_
 refine RE.steadily_call (i:=23) (v:=_) rfl rfl (by kernel_rfl) (by kernel_rfl) (fun _ _ _ h=>h) (by rfl) ?_ (fun w' hq=>gr_call (H4.out w')) ?_
 ·(intro w' hq; go_simp; try with_reducible rfl)
 simp only [Act.put,zs1,zs2,zs3]
 refine RE.steadily_done (by kernel_rfl) (fun w3 hq3=>?_)
 simp only [List.drop_succ_cons]
 have hg3:=grR.trans hg0 (grR.trans (gr_drew _) hq3)
 go_wp2_with fail
 refine (HO.out _ _ _ (Blk.new w3 _ _)).mono ?_
 rintro e w4 ⟨rfl,rfl⟩
 go_wp2
 go_ret
 exact ⟨rfl,grR.trans hg3 (gr_alloc _ _)⟩
def CtSl (w:World) (v:Value) (l:List Ct):Prop:=∃ a cap,v=.slice a l.length cap∧∀ i,i<l.length→∃ b o u,a=some ⟨b,o,none⟩∧b<w.heap.size∧NumSl w u (ctAt l i).ms∧∀ j z,(ctC (ctAt l i) u)[j]?=some z→w.cell? ⟨b,o+i*4+j,none⟩=some z
theorem CtSl.keep {w w':World} {v:Value} {l:List Ct} (h:CtSl w v l) (hq:Q w w'):CtSl w' v l:=by
 obtain ⟨a,cap,rfl,hc⟩:=h
 refine ⟨a,cap,rfl,fun i hi=>?_⟩
 obtain ⟨b,o,u,ha,hb,hn,h⟩:=hc i hi
 exact ⟨b,o,u,ha,Nat.lt_of_lt_of_le hb hq.size,hn.keep hq,fun j z hj=>(hq.cell (p:=⟨b,o+i*4+j,none⟩) hb).trans (h j z hj)⟩
def seenC (S:List Int):List Value:=(List.range 512).map fun i:Nat=>Value.bool (decide ((i:Int)∈S))
theorem seenC_len (S:List Int):(seenC S).length=512:=by unfold seenC; rw [List.length_map,List.length_range]
theorem seenC_get {S:List Int} {i:Nat} (h:i<512):(seenC S)[i]?=some (.bool (decide ((i:Int)∈S))):=by
 unfold seenC
 rw [List.getElem?_map,List.getElem?_range h]; rfl
theorem seenC_at (S:List Int) (i:Nat):(seenC S)[i]?=if i<512 then some (.bool (decide ((i:Int)∈S))) else none:=by
 by_cases h:i<512
 ·rw [seenC_get h,if_pos h]
 ·rw [if_neg h,List.getElem?_eq_none_iff,seenC_len]; omega
theorem seenC_set {S:List Int} {i:Nat} (h:i<512):(seenC S).set i (.bool true)=seenC (S++[(i:Int)]):=by
 have hl:i<(seenC S).length:=by rw [seenC_len]; exact h
 have hs:=seenC_at S
 have ht:=seenC_at (S++[(i:Int)])
 generalize seenC (S++[(i:Int)])=T at *
 generalize seenC S=U at *
 apply List.ext_getElem?
 intro j
 rw [List.getElem?_set,ht j]
 by_cases hij:i=j
 ·subst hij
  rw [if_pos rfl,if_pos hl,if_pos h]
  exact congrArg (fun b=>some (Value.bool b)) (decide_eq_true (List.mem_append.2 (.inr (List.mem_singleton.2 rfl)))).symm
 ·rw [if_neg hij,hs j]
  have hne:¬ (j:Int)=i:=by omega
  have e:decide ((j:Int)∈S)=decide ((j:Int)∈S++[(i:Int)]):=decide_eq_decide.2 ⟨fun h=>List.mem_append.2 (.inl h),fun h=>by
   rcases List.mem_append.1 h with h | h
   ·exact h
   ·exact absurd (List.mem_singleton.1 h) hne⟩
  rw [e]
theorem seen_zero:Tryz.zeroCells66=(seenC []).toArray:=by kernel_rfl
theorem seen_info:(Tryz.prog.info? 66).map (·.size)=some 512:=by kernel_rfl
theorem seen_store (W:World):(storeCells ⟨W.heap.size,0,none⟩ Tryz.zeroCells66.toList 0).run Tryz.prog (W.alloc (.cells Tryz.zeroCells66 66))=.ok () (W.alloc (.cells (seenC []).toArray 66)):=by
 rw [seen_zero]
 exact run_storeCells_new (P:=Tryz.prog) W 66 (seenC []).toArray (seenC []).toArray (by rw [List.size_toArray,seenC_len]; exact seen_info) rfl (by
  rw [List.all_toArray,List.all_eq_true]
  intro x hx
  unfold seenC at hx
  rw [List.mem_map] at hx
  obtain ⟨i,_,rfl⟩:=hx
  rfl)
end Go.Proofs.YtohlpeicpoaanaaGreatDoor
