/-
  Walks of package plan: loops over the sides of a ring.; Regions that draw their order and store late: what is taken first holds in whatever world, what is left goes on from the world as it is.
-/
import Derived.Test.YtapnkgdnflofbaaGreatDoorCH13
import Derived.Deep.WholeRow
import Derived.Test.YtapnkgdnflofbaaGreatDoorCHBI1
set_option maxRecDepth 100000
set_option maxHeartbeats 4000000
namespace Go.Proofs.YtapnkgdnflofbaaGreatDoor
section
open Go.RowKit Go.Shelf Kp
attribute [local go_sem] Oper.semAt_some
theorem zi5{a:Arn}(h:ArnOk a):-17179869184≤zeW a.o.x a.o.y a.h.x a.h.y∧zeW a.o.x a.o.y a.h.x a.h.y≤17179869184:=by
 have m1:=zgh (a:=a.o.x) (b:=a.h.y) (by have:=h.o;omega) (by have:=h.h;omega)
 have m2:=zgh (a:=a.o.y) (b:=a.h.x) (by have:=h.o;omega) (by have:=h.h;omega)
 have p1:0≤a.o.x*a.h.y:=Int.mul_nonneg (by have:=h.o;omega) (by have:=h.h;omega)
 have p2:0≤a.o.y*a.h.x:=Int.mul_nonneg (by have:=h.o;omega) (by have:=h.h;omega)
 unfold zeW
 omega
theorem zfM{r:List Sd}(hr:∀ i,i<r.length→ArnOk (arn r i)):∀ k,k≤r.length→-17179869184*(k:Int)≤zes r k∧zes r k≤17179869184*(k:Int)
 | 0,_=>by unfold zes;omega
 | k+1,h=>by
  have ih:=zfM hr k (by omega)
  have hc:=zi5 (hr k (by omega))
  unfold zes
  omega
theorem zew(ar:Arn)(W:World):(storeCells ⟨W.heap.size,0,none⟩ (zfN ar)).run Tryz.prog (W.alloc (.cells #[.int .i64 0,.int .i64 0,.int .i64 0,.int .i64 0,.bool false,.int .i64 0,.int .i64 0,.int .i64 0,.int .i64 0,.int .i64 0,.int .i64 0,.bool false,.int .i64 0,.int .i64 0,.int .i64 0,.int .i64 0,.int .i64 0,.int .i64 0,.bool false,.int .i64 0,.int .i64 0] 305))=.ok () (W.alloc (.cells (zfN ar).toArray 305)):=by
 have h:=run_storeCells_new (P:=Tryz.prog) W 305 #[.int .i64 0,.int .i64 0,.int .i64 0,.int .i64 0,.bool false,.int .i64 0,.int .i64 0,.int .i64 0,.int .i64 0,.int .i64 0,.int .i64 0,.bool false,.int .i64 0,.int .i64 0,.int .i64 0,.int .i64 0,.int .i64 0,.int .i64 0,.bool false,.int .i64 0,.int .i64 0] (zfN ar).toArray (by kernel_rfl) rfl (by simp[zfN,sdC,Value.oneCell'])
 exact h
theorem ztf(r:List Sd)(hr:∀ i,i<r.length→ArnOk (arn r i))(hlen:r.length≤1000)(a:Option Addr)(cap:Nat)(w:World)(hrow:zci w a r)(hba:∀ k∈zbM a,k<w.heap.size) :
  CallsIn Fence.wide 9 Tryz.prog 255 #[.slice a r.length cap] w fun e w'=>e=.returned (.int .i64 (zes r r.length))∧Q w w':=by
 refine callsIn_of_wp_marks Tryz.func255 rfl trivial ?_ rfl
 simp only[Tryz.ntmps255,List.size_toArray,List.length_cons,List.length_nil,Nat.reduceAdd,Nat.reduceSub,Array.replicate_succ,Array.replicate_zero,List.push_toArray,List.append_toArray,List.nil_append,List.cons_append]
 refine wpIn_wide.2 ?_
 go_wp2_with fail
 refine(zdM a r.length cap _).mono ?_
 rintro e w2⟨rfl,rfl⟩
 obtain⟨W2,hW2⟩:∃ W2,(w.alloc (.cells #[.int .i64 0] 3)).alloc (.cells #[.slice a r.length cap] 75)=W2:=⟨_,rfl⟩
 have hq2:Q w W2:=by rw[← hW2];exact bt
 have hs2:W2.heap.size=w.heap.size+2:=by rw[← hW2];simp
 have bI:Boxed W2 w.heap.size 3 (.int .i64 0):=by
  have:=(Boxed.new w 3 (.int .i64 0)).alloc (.cells #[.slice a r.length cap] 75)
  rw[hW2]at this;exact this
 have bS:Boxed W2 (w.heap.size+1) 75 (.slice a r.length cap):=by
  have:=Boxed.new (w.alloc (.cells #[.int .i64 0] 3)) 75 (.slice a r.length cap)
  rw[World.size_alloc,hW2]at this;exact this
 rw[World.size_alloc,hW2]
 clear hW2
 have hrow2:=hrow.q hq2
 go_wp2_with fail
 refine(wpIn_wide (n:=9)).1 ?_
 refine zbb (m:=9) (gf:=288) (lb:=#[.pointer (some ⟨w.heap.size+1,0,none⟩)]) (by omega) rfl (enters_of Tryz.func288 (by kernel_rfl) rfl)
  (zdH (w.heap.size+1) r a cap hlen W2 8 (by omega) bS.cell hrow2) (fun k hk=>by
   rw[List.mem_cons]at hk
   rcases hk with rfl | hk
   ·omega
   ·have:=hba k hk;omega) (fun _=>rfl)
  (fun k W=>Boxed W w.heap.size 3 (.int .i64 (zes r k))∧Q w W) (fun _ _=>False)
  (fun k W W' h kc hb=>⟨zu h.1 kc,Below.trans h.2 (hb.mono hq2.size)⟩) (fun _ _ _ h _ _=>h) ⟨bI,hq2⟩
  (fun x a1 W=>∃ b,w.heap.size+2≤b∧a1={ tmps:=#[.slice a r.length cap,undef,.int .i64 0,.pointer (some ⟨w.heap.size,0,none⟩),undef,.pointer (some ⟨b,0,none⟩),.slice a r.length cap,.func (.func 288) #[] #[.pointer (some ⟨w.heap.size+1,0,none⟩)],.int .i64 (x.1:Nat),.agg (zfN (arn r x.1)).toArray,undef,undef,undef,undef,undef,undef,undef,undef,undef,undef],defers:=[] }∧Blk W b (zfN (arn r x.1)) 305)
  (fun x a1 W W' h kc=>by
   obtain⟨b,h1,h2,h3⟩:=h
   exact⟨b,h1,h2,h3.kc kc⟩)
  ?assign ?body ?done ?stop
 case assign =>
  intro l x W K hW hK
  have hk:=hK _ (W.alloc (.cells (zfN (arn r x.1)).toArray 305)) ((Below.refl _ W).alloc (Nat.le_refl _) _) ⟨W.heap.size,by omega,rfl,Blk.new W _ _⟩
  clear hK
  have hst:=fun W=>zew (arn r x.1) W
  gi_wp2
  exact hk
 case stop =>
  rintro D c W _ h _
  exact h.elim
 case body =>
  rintro l k hk a1 W⟨hb,hQ⟩ ⟨b,hbb,rfl,hA⟩
  have hmix:Tryz.prog.follows .mixedOrders=true:=by kernel_rfl
  simp only at hA ⊢
  have hr1:=zfM hr k (by omega)
  have hr2:=zfM hr (k+1) (by omega)
  have hcr:=zi5 (hr k hk)
  have hok:=hr k hk
  have hS:zes r (k+1)=zes r k+zeW (arn r k).o.x (arn r k).o.y (arn r k).h.x (arn r k).h.y:=rfl
  have HI:Hid (∀ W',Boxed W' w.heap.size 3 (.int .i64 (zes r k+zeW (arn r k).o.x (arn r k).o.y (arn r k).h.x (arn r k).h.y))→Q w W'→Boxed W' w.heap.size 3 (.int .i64 (zes r (k+1)))∧Q w W'):=LH (fun W' h hq=>⟨by rw[hS];exact h,hq⟩)
  rw[hS]at hr2
  clear hS
  generalize hsm:zes r k=sm at *
  generalize arn r k=ar at *
  have HO:=LH (fun w=>zaM ar.o.x ar.o.y ar.o.rise ar.o.run ar.o.gable ar.o.plate ar.o.over w)
  have HH:=LH (fun w=>zaM ar.h.x ar.h.y ar.h.rise ar.h.run ar.h.gable ar.h.plate ar.h.over w)
  have HC:=LH (fun w=>zjJ ar.o.x ar.o.y ar.h.x ar.h.y (by have:=hok.o;omega) (by have:=hok.o;omega) (by have:=hok.h;omega) (by have:=hok.h;omega) w)
  generalize zeW ar.o.x ar.o.y ar.h.x ar.h.y=cr at *
  have hkz:(k:Int)≤1000:=by omega
  have wsum:=Go.IntWalk.i64_in (sm+cr) (by omega)
  have cS:W.drew.cell? ⟨w.heap.size,0,none⟩=some (.int .i64 sm):=hb.cell
  have d7:W.drew.cell? ⟨b,7,none⟩=some (.int .i64 ar.o.x):=hA.cell 7
  have d8:W.drew.cell? ⟨b,8,none⟩=some (.int .i64 ar.o.y):=hA.cell 8
  have d9:W.drew.cell? ⟨b,9,none⟩=some (.int .i64 ar.o.rise):=hA.cell 9
  have d10:W.drew.cell? ⟨b,10,none⟩=some (.int .i64 ar.o.run):=hA.cell 10
  have d11:W.drew.cell? ⟨b,11,none⟩=some (.bool ar.o.gable):=hA.cell 11
  have d12:W.drew.cell? ⟨b,12,none⟩=some (.int .i64 ar.o.plate):=hA.cell 12
  have d13:W.drew.cell? ⟨b,13,none⟩=some (.int .i64 ar.o.over):=hA.cell 13
  have d14:W.drew.cell? ⟨b,14,none⟩=some (.int .i64 ar.h.x):=hA.cell 14
  have d15:W.drew.cell? ⟨b,15,none⟩=some (.int .i64 ar.h.y):=hA.cell 15
  have d16:W.drew.cell? ⟨b,16,none⟩=some (.int .i64 ar.h.rise):=hA.cell 16
  have d17:W.drew.cell? ⟨b,17,none⟩=some (.int .i64 ar.h.run):=hA.cell 17
  have d18:W.drew.cell? ⟨b,18,none⟩=some (.bool ar.h.gable):=hA.cell 18
  have d19:W.drew.cell? ⟨b,19,none⟩=some (.int .i64 ar.h.plate):=hA.cell 19
  have d20:W.drew.cell? ⟨b,20,none⟩=some (.int .i64 ar.h.over):=hA.cell 20
  gi_wp2
  refine zaG 9 hmix (by kernel_rfl) rfl (by kernel_rfl) ?_
  refine svq 0 rfl (by intro w' hq;have hc0:=za hq cS;go_simp;try with_reducible rfl) ?_
  refine svp 1 ?_
  refine svq 2 rfl (by intro w' hq;have hc0:=za hq d7;have hc1:=za hq d8;have hc2:=za hq d9;have hc3:=za hq d10;have hc4:=za hq d11;have hc5:=za hq d12;have hc6:=za hq d13;go_simp;try with_reducible rfl) ?_
  refine zk (i:=3) (v:=_) rfl rfl (by kernel_rfl) (by kernel_rfl) (fun _ _ _ h=>h) (by rfl) ?_ (fun w' hq=>HO.out w') ?_
  ·(intro w' hq;go_simp;try with_reducible rfl)
  simp only[Act.put,zs1,zs2,zs3]
  refine svp 4 ?_
  refine svq 5 rfl (by intro w' hq;have hc0:=za hq d14;have hc1:=za hq d15;have hc2:=za hq d16;have hc3:=za hq d17;have hc4:=za hq d18;have hc5:=za hq d19;have hc6:=za hq d20;go_simp;try with_reducible rfl) ?_
  refine zk (i:=6) (v:=_) rfl rfl (by kernel_rfl) (by kernel_rfl) (fun _ _ _ h=>h) (by rfl) ?_ (fun w' hq=>HH.out w') ?_
  ·(intro w' hq;go_simp;try with_reducible rfl)
  simp only[Act.put,zs1,zs2,zs3]
  refine zk (i:=7) (v:=_) rfl rfl (by kernel_rfl) (by kernel_rfl) (fun _ _ _ h=>h) (by rfl) ?_ (fun w' hq=>HC.out w') ?_
  ·(intro w' hq;go_simp;try with_reducible rfl)
  simp only[Act.put,zs1,zs2,zs3]
  refine svp 8 ?_
  refine zh (by kernel_rfl) (fun w3 hq3=>?_)
  simp only[List.drop_succ_cons,List.drop_zero]
  have hqq:Q W w3:=Q.trans (Below.drew (Q.refl W)) hq3
  have bI3:=zu hb (KC.q hqq)
  have c3:=bI3.cell
  have f3:=bI3.frozen
  have bI4:=bI3.set (.int .i64 (sm+cr))
  have hQ4:Q w (w3.setCell ⟨w.heap.size,0,none⟩ (.int .i64 (sm+cr))):=(Q.trans hQ hqq).setCell (p:=⟨w.heap.size,0,none⟩) (by simp) _
  have kf4:KeepsFrom W2.heap.size W (w3.setCell ⟨w.heap.size,0,none⟩ (.int .i64 (sm+cr))):=((KeepsOthers.of_grownBy (zas hqq none) (fun j o e=>by cases e)).from _).trans ((KeepsOthers.setCell _ _ _).from _)
  have kb4:zI ((w.heap.size+1)::zbM a) W (w3.setCell ⟨w.heap.size,0,none⟩ (.int .i64 (sm+cr))):=(zI.q hqq).trans (zI.set _ (fun k hk=>by
   rw[List.mem_cons]at hk
   rcases hk with rfl | hk
   ·omega
   ·have:=hba k hk;omega) _ _)
  clear cS d7 d8 d9 d10 d11 d12 d13 d14 d15 d16 d17 d18 d19 d20 HO HH HC
  go_wp2
  simp only[zbC]
  gi_wp2
  exact⟨kf4,kb4,HI.out _ bI4 hQ4⟩
 case done =>
  rintro D W hD⟨hb,hQ⟩ hK
  have c0:=hb.cell
  go_wp2
  have kc:=KC.put (.deferred none) hK rfl
  refine⟨by simp,.inl ⟨_,_,rfl,run_takeDeferred hK,?_⟩⟩
  exact⟨_,results_tmp rfl _ _ _,rfl,Below.trans hQ (zaQ (by omega) hK _)⟩
theorem zp2(r:List Sd)(hr:∀ i,i<r.length→ArnOk (arn r i))(hlen:r.length≤1000)(a:Option Addr)(cap:Nat)(w:World)(hrow:zci w a r)(hba:∀ k∈zbM a,k<w.heap.size) :
  CR 255 #[.slice a r.length cap] w (.int .i64 (zes r r.length)) :=
 callsIn_wide.1 (ztf r hr hlen a cap w hrow hba)
theorem zts(X Y:Value)(w:World):(Instr.field 307 (.agg #[X,Y]) 0).run Tryz.prog w=.ok X w:=by kernel_rfl
theorem zdE{l m:Nat}{P:Program}{ops:Array Oper}{rest:List Oper}{o:Oper}{a:Act}{w:World}{R:Exit→Act→World→Prop}(hgd:o.guard=none)(ty:TypeId)(x:Operand)(ho:o.op=.load ty x)(g:Nat)(hx:a.eval x=.pointer (some ⟨g,0,none⟩))
  {t:TypeId}{cs:List Value}(hb:Blk w g cs t)(d:TypeDesc)(hu:P.underlying ty=some d)(hd:(match d with | .struct _ | .array _ _=>true | _=>false)=true)(hi:(P.info? ty).map (·.size)=some cs.length)
  (h:wpListIn (Fence.wide.inRound l) m P ops R rest (a.put o.dst (.agg cs.toArray)) w):wpListIn (Fence.wide.inRound l) m P ops R (o::rest) a w:=by
 refine wpListIn_plain hgd fun K hK=>⟨fun _ _=>trivial,?_⟩
 rw[Oper.semAt_eq _ _ _ (fun c hc=>by rw[ho]at hc;cases hc),zcT ty x ho g hx hb d hu hd hi]
 exact hK _ _ h
theorem zqj(r:List Sd)(hr:∀ i,i<r.length→ArnOk (arn r i))(hlen:r.length≤1000)(px py:Int)(a:Option Addr)(cap:Nat)(w:World)(hrow:zci w a r)(hba:∀ k∈zbM a,k<w.heap.size) :
  CallsIn Fence.wide 9 Tryz.prog 256 #[.slice a r.length cap,.agg #[.int .i64 px,.int .i64 py]] w fun e w'=>e=.returned (.bool (zco r px py r.length))∧Q w w':=by
 refine callsIn_of_wp_marks Tryz.func256 rfl trivial ?_ rfl
 simp only[Tryz.ntmps256,List.size_toArray,List.length_cons,List.length_nil,Nat.reduceAdd,Nat.reduceSub,Array.replicate_succ,Array.replicate_zero,List.push_toArray,List.append_toArray,List.nil_append,List.cons_append]
 refine wpIn_wide.2 ?_
 go_wp2_with fail
 refine(zdM a r.length cap _).mono ?_
 rintro e w2⟨rfl,rfl⟩
 obtain⟨W2,hW2⟩:∃ W2,((w.alloc (.cells #[.int .i64 px,.int .i64 py] 307)).alloc (.cells #[.bool false] 4)).alloc (.cells #[.slice a r.length cap] 75)=W2:=⟨_,rfl⟩
 have hq2:Q w W2:=by rw[← hW2];exact bt
 have hs2:W2.heap.size=w.heap.size+3:=by rw[← hW2];simp
 have bP:Blk W2 w.heap.size [.int .i64 px,.int .i64 py] 307:=by
  have:=((Blk.new w [.int .i64 px,.int .i64 py] 307).alloc (.cells #[.bool false] 4)).alloc (.cells #[.slice a r.length cap] 75)
  rw[hW2]at this;exact this
 have bI:Boxed W2 (w.heap.size+1) 4 (.bool false):=by
  have:=(Boxed.new (w.alloc (.cells #[.int .i64 px,.int .i64 py] 307)) 4 (.bool false)).alloc (.cells #[.slice a r.length cap] 75)
  rw[World.size_alloc,hW2]at this;exact this
 have bS:Boxed W2 (w.heap.size+2) 75 (.slice a r.length cap):=by
  have:=Boxed.new ((w.alloc (.cells #[.int .i64 px,.int .i64 py] 307)).alloc (.cells #[.bool false] 4)) 75 (.slice a r.length cap)
  rw[World.size_alloc,World.size_alloc,hW2]at this;exact this
 rw[World.size_alloc,World.size_alloc,hW2]
 clear hW2
 have hrow2:=hrow.q hq2
 go_wp2_with fail
 refine(wpIn_wide (n:=9)).1 ?_
 refine zbb (m:=9) (gf:=288) (lb:=#[.pointer (some ⟨w.heap.size+1+1,0,none⟩)]) (by omega) rfl (enters_of Tryz.func288 (by kernel_rfl) rfl)
  (zdH (w.heap.size+1+1) r a cap hlen W2 8 (by omega) bS.cell hrow2) (fun k hk=>by
   rw[List.mem_cons]at hk
   rcases hk with rfl | hk
   ·omega
   ·have:=hba k hk;omega) (fun _=>rfl)
  (fun k W=>Blk W w.heap.size [.int .i64 px,.int .i64 py] 307∧Boxed W (w.heap.size+1) 4 (.bool (zco r px py k))∧Q w W) (fun _ _=>False)
  (fun k W W' h kc hb=>⟨h.1.kc kc,zu h.2.1 kc,Below.trans h.2.2 (hb.mono hq2.size)⟩) (fun _ _ _ h _ _=>h) ⟨bP,bI,hq2⟩
  (fun x a1 W=>∃ b,w.heap.size+3≤b∧a1={ tmps:=#[.slice a r.length cap,.agg #[.int .i64 px,.int .i64 py],undef,.pointer (some ⟨w.heap.size,0,none⟩),.bool false,.pointer (some ⟨w.heap.size+1,0,none⟩),undef,.pointer (some ⟨b,0,none⟩),undef,.slice a r.length cap,.func (.func 288) #[] #[.pointer (some ⟨w.heap.size+1+1,0,none⟩)],.int .i64 (x.1:Nat),.agg (zfN (arn r x.1)).toArray,undef,undef,undef,undef,undef,undef,undef,undef,undef,undef,undef,undef,undef,undef,undef,undef,undef,undef,undef,undef,undef,undef,undef,undef,undef,undef,undef,undef,undef,undef,undef],defers:=[] }∧Blk W b (zfN (arn r x.1)) 305)
  (fun x a1 W W' h kc=>by
   obtain⟨b,h1,h2,h3⟩:=h
   exact⟨b,h1,h2,h3.kc kc⟩)
  ?assign ?body ?done ?stop
 case assign =>
  intro l x W K hW hK
  have hst:=fun W=>zew (arn r x.1) W
  have hk:=hK _ (W.alloc (.cells (zfN (arn r x.1)).toArray 305)) ((Below.refl _ W).alloc (Nat.le_refl _) _) ⟨W.heap.size,by omega,rfl,Blk.new W _ _⟩
  clear hK
  gi_wp2
  exact hk
 case stop =>
  rintro D c W _ h _
  exact h.elim
 case body =>
  rintro l k hk a1 W⟨hp,hb,hQ⟩ ⟨b,hbb,rfl,hA⟩
  simp only at hA ⊢
  have hok:=hr k hk
  have HI:Hid (∀ W',Boxed W' (w.heap.size+1) 4 (.bool (if zgd (arn r k) px py then !zco r px py k else zco r px py k))→Boxed W' (w.heap.size+1) 4 (.bool (zco r px py (k+1)))):=LH (fun W' h=>h)
  generalize zco r px py k=sm at *
  generalize arn r k=ar at *
  have HO:=LH (fun w=>zaM ar.o.x ar.o.y ar.o.rise ar.o.run ar.o.gable ar.o.plate ar.o.over w)
  have HW:=LH (fun w=>zky ar hok w)
  have d7:W.cell? ⟨b,7,none⟩=some (.int .i64 ar.o.x):=hA.cell 7
  have d8:W.cell? ⟨b,8,none⟩=some (.int .i64 ar.o.y):=hA.cell 8
  have d9:W.cell? ⟨b,9,none⟩=some (.int .i64 ar.o.rise):=hA.cell 9
  have d10:W.cell? ⟨b,10,none⟩=some (.int .i64 ar.o.run):=hA.cell 10
  have d11:W.cell? ⟨b,11,none⟩=some (.bool ar.o.gable):=hA.cell 11
  have d12:W.cell? ⟨b,12,none⟩=some (.int .i64 ar.o.plate):=hA.cell 12
  have d13:W.cell? ⟨b,13,none⟩=some (.int .i64 ar.o.over):=hA.cell 13
  gi_wp2_with fail
  refine⟨trivial,?_⟩
  with_reducible refine CallsIn.mono (CallsIn.inRound l (callsIn_wide.2 (HO.out W))) ?_
  rintro e w3⟨rfl,hq3⟩
  have A3:=hA.keep hq3 hA.lt
  have P3:=hp.keep hq3 hp.lt
  have I3:=zu hb (KC.q hq3)
  have hsz3:w.heap.size+3≤w3.heap.size:=by have:=A3.lt;omega
  have A4:=A3.alloc (.cells #[.int .i64 ar.o.x,.int .i64 ar.o.y] 307)
  clear d7 d8 d9 d10 d11 d12 d13
  gi_wp2_with (refine zdE rfl 305 (.tmp 7) rfl b rfl A4 _ Tryz.underlying305 rfl (by kernel_rfl) ?_)
  refine⟨trivial,?_⟩
  with_reducible refine CallsIn.mono (CallsIn.inRound l (callsIn_wide.2 (HW.out _))) ?_
  rintro e w5⟨rfl,hq5⟩
  have hq35:Q w3 w5:=Q.trans ((Below.refl _ w3).alloc (Nat.le_refl _) _) hq5
  have A5:=A4.keep hq5 A4.lt
  have P5:=P3.keep hq35 P3.lt
  have I5:=zu I3 (KC.q hq35)
  have q5:=(Blk.new w3 [.int .i64 ar.o.x,.int .i64 ar.o.y] 307).keep hq5 (by simp)
  have hqq:Q W w5:=Q.trans hq3 hq35
  have hQ5:Q w w5:=Q.trans hQ hqq
  have kf5:KeepsFrom W2.heap.size W w5:=(KeepsOthers.of_grownBy (zas hqq none) (fun j o e=>by cases e)).from _
  have kb5:zI ((w.heap.size+1+1)::zbM a) W w5:=zI.q hqq
  have p0:=P5.cell
  have q0:=q5.cell 0
  have q1:=q5.cell 1
  have hy:w5.cell? ⟨b,15,none⟩=some (.int .i64 ar.h.y):=A5.cell 15
  have i0:=I5.cell
  have j0:=I5.frozen
  try simp only[zs4,zs5]at q0 q1
  have I6:=I5.set (.bool (!sm))
  have P6:=P5.setOther (b':=w.heap.size+1) (by omega) 0 (.bool (!sm))
  have hQ6:Q w (w5.setCell ⟨w.heap.size+1,0,none⟩ (.bool (!sm))):=hQ5.setCell (p:=⟨w.heap.size+1,0,none⟩) (by simp) _
  have kf6:KeepsFrom W2.heap.size W (w5.setCell ⟨w.heap.size+1,0,none⟩ (.bool (!sm))):=kf5.trans ((KeepsOthers.setCell _ _ _).from _)
  have kb6:zI ((w.heap.size+1+1)::zbM a) W (w5.setCell ⟨w.heap.size+1,0,none⟩ (.bool (!sm))):=kb5.trans (zI.set _ (fun k hk=>by
   rw[List.mem_cons]at hk
   rcases hk with rfl | hk
   ·omega
   ·have:=hba k hk;omega) _ _)
  clear A3 A4 P3 I3 HO HW
  have hfl:=zts
  by_cases h1:ar.wx=0
  ·have hb1:(ar.wx == 0)=true:=by rw[h1];rfl
   by_cases h2:px<ar.o.x
   ·by_cases h3:py<ar.o.y
    ·by_cases h4:py<ar.h.y
     ·have hpf:zgd ar px py=false:=by unfold zgd;simp[h1,h2,h3,h4]
      gi_wp2
      exact⟨kf5,kb5,P5,HI.out _ (by rw[hpf];exact I5),hQ5⟩
     ·have hpf:zgd ar px py=true:=by unfold zgd;simp[h1,h2,h3,h4]
      have h4':decide (py<ar.h.y)=false:=by simpa using h4
      gi_wp2
      exact⟨kf6,kb6,P6,HI.out _ (by rw[hpf];exact I6),hQ6⟩
    ·by_cases h4:py<ar.h.y
     ·have hpf:zgd ar px py=true:=by unfold zgd;simp[h1,h2,h3,h4]
      have h4':decide (py<ar.h.y)=true:=by simpa using h4
      have h3':decide (py<ar.o.y)=false:=by simpa using h3
      gi_wp2
      exact⟨kf6,kb6,P6,HI.out _ (by rw[hpf];exact I6),hQ6⟩
     ·have hpf:zgd ar px py=false:=by unfold zgd;simp[h1,h2,h3,h4]
      have h4':decide (py<ar.h.y)=false:=by simpa using h4
      have h3':decide (py<ar.o.y)=false:=by simpa using h3
      gi_wp2
      exact⟨kf5,kb5,P5,HI.out _ (by rw[hpf];exact I5),hQ5⟩
   ·have hpf:zgd ar px py=false:=by unfold zgd;simp[h1,h2]
    gi_wp2
    first
     | exact⟨kf5,kb5,P5,HI.out _ (by rw[hpf];exact I5),hQ5⟩
     | exact⟨by rw[← hs2];exact kf5,kb5,P5,HI.out _ (by rw[hpf];exact I5),hQ5⟩
  ·have hb1:(ar.wx == 0)=false:=by simpa using h1
   have hpf:zgd ar px py=false:=by unfold zgd;simp[h1]
   gi_wp2
   first
    | exact⟨kf5,kb5,P5,HI.out _ (by rw[hpf];exact I5),hQ5⟩
    | exact⟨by rw[← hs2];exact kf5,kb5,P5,HI.out _ (by rw[hpf];exact I5),hQ5⟩
 case done =>
  rintro D W hD⟨hp,hb,hQ⟩ hK
  have c0:=hb.cell
  go_wp2
  have kc:=KC.put (.deferred none) hK rfl
  refine⟨by simp,.inl ⟨_,_,rfl,run_takeDeferred hK,?_⟩⟩
  exact⟨_,results_tmp rfl _ _ _,rfl,Below.trans hQ (zaQ (by omega) hK _)⟩
end
section
open Go.RowKit Go Kp
structure QRel extends Rel where
 q:∀ {a c:World},Q a c→r a c
def zrw(b:Nat):QRel where
 r:=fun a c=>b≤a.heap.size→Below b a c
 refl:=fun _ _=>Below.refl _ _
 trans:=fun h k hb=>Below.trans (h hb) (k (Nat.le_trans hb (h hb).size))
 q:=fun h hb=>h.mono hb
namespace RF
section
variable {ρ:QRel} {P:Program} {l:List Oper} {R:Exit→Act→World→Prop} {md:Region.Mode} {n:Nat}
def Walks(ρ:QRel)(P:Program)(md:Region.Mode)(l:List Oper)(R:Exit→Act→World→Prop)(n:Nat):Nat→Array Bool→Act→World→Prop
 | 0,ls,a,w=>Region.seqB md l.toArray (l.toArray.size - n) n ls=true∧∀ w',Q w w'→wpList P l.toArray R (l.drop n) a w'
 | f+1,ls,a,w=>Region.ready md l.toArray ls≠[] ∧
  ∀ i∈Region.ready md l.toArray ls,i<n∧∀ w',Q w w'→wpOp P l.toArray R i (fun a' w''=>ρ.r w' w''∧Walks ρ P md l R n f (ls.setIfInBounds i true) a' w'') a w'
theorem Walks.later:∀ {f:Nat} {ls:Array Bool} {a:Act} {w w':World},Walks ρ P md l R n f ls a w→Q w w'→Walks ρ P md l R n f ls a w'
 | 0,_,_,_,_,h,hq=>⟨h.1,fun _ h1=>h.2 _ (Q.trans hq h1)⟩
 | _+1,_,_,_,_,h,hq=>⟨h.1,fun i hi=>⟨(h.2 i hi).1,fun _ h1=>(h.2 i hi).2 _ (Q.trans hq h1)⟩⟩
theorem Walks.any(hn:n≤l.length):∀ {f:Nat} {ls:Array Bool} {a:Act} {w:World},Walks ρ P md l R n f ls a w→wpAny P md l.toArray R (f+(l.toArray.size - n)) ls a w
 | 0,ls,a,w,h=>by
  rw[Nat.zero_add]
  have hd:(l.drop n).length=l.toArray.size - n:=by simp
  have:=wpAny_of_seq (md:=md) (Q':=R) (l.drop n) n ls a w (fun j=>by simp[List.getElem?_drop]) (by rw[hd];exact h.1) (h.2 w (Q.refl w))
  rwa[hd]at this
 | f+1,ls,a,w,h=>by
  rw[show f+1+(l.toArray.size - n)=(f+(l.toArray.size - n))+1 by omega]
  exact⟨fun e=>absurd e h.1,fun i hi=>wpOp_mono (fun _ _ h'=>Walks.any hn h'.2) ((h.2 i hi).2 w (Q.refl w))⟩
def Does(ρ:QRel)(P:Program)(ops:Array Oper)(o:Oper)(v:Value)(a:Act)(w:World):Prop :=
 (Region.wanted o (yielded ops a.tmps)=true∧∀ w',ρ.r w w'→(execOp a.eval o).run P w'=.ok (.value v) w') ∨
 (Region.wanted o (yielded ops a.tmps)=true∧∃ f args,(∀ w',ρ.r w w'→(execOp a.eval o).run P w'=.ok (.enter f args) w')∧∀ w',ρ.r w w'→Calls P f args w' fun e w''=>e=.returned v∧Q w' w'') ∨
 (Region.wanted o (yielded ops a.tmps)=false∧v=undef)
theorem Does.alike{ops:Array Oper}{o:Oper}{v:Value}{a a':Act}{w w':World}(h:Does ρ P ops o v a w)(ha:Alike ops o a a')(hq:ρ.r w w'):Does ρ P ops o v a' w':=by
 unfold Does
 rw[ha.1,ha.2]
 rcases h with⟨h1,h2⟩|⟨h1,f,args,h2,h3⟩ | h
 ·exact .inl ⟨h1,fun w2 h=>h2 w2 (ρ.trans hq h)⟩
 ·exact .inr (.inl ⟨h1,f,args,fun w2 h=>h2 w2 (ρ.trans hq h),fun w2 h=>h3 w2 (ρ.trans hq h)⟩)
 ·exact .inr (.inr h)
theorem Does.wpOp{ops:Array Oper}{i:Nat}{o:Oper}{v:Value}{a:Act}{w w':World}(h:Does ρ P ops o v a w)(hi:ops[i]? = some o)(hq:ρ.r w w'){K:Act→World→Prop}
  (hK:∀ w'',Q w' w''→K (a.put o.dst v) w''):wpOp P ops R i K a w':=by
 unfold Go.wpOp
 simp only[hi]
 rcases h with⟨h1,h2⟩|⟨h1,f,args,h2,h3⟩|⟨h1,rfl⟩
 ·rw[if_pos h1]
  left
  unfold Oper.wp
  rw[h2 w' hq]
  exact hK w' (Q.refl w')
 ·rw[if_pos h1]
  left
  unfold Oper.wp
  rw[h2 w' hq]
  refine(h3 w' hq).mono fun e w'' he=>?_
  obtain⟨rfl,hq'⟩:=he
  exact hK w'' hq'
 ·rw[if_neg (by simp[h1])]
  exact hK w' (Q.refl w')
theorem zcX{i:Nat}{oi:Oper}{v:Value}(hi:l.toArray[i]? = some oi)(hB:zeb md l.toArray n=true)(hin:i<n)
  (hR:∀ c a w,R (.panic c) (a.put oi.dst v) w→R (.panic c) a w) :
  ∀ (f:Nat) (ls:Array Bool) (a:Act) (w:World),HeadInv md l.toArray n ls →
   (∀ j oj,l.toArray[j]? = some oj→j≠i→ls.getD j true=false→(∀ e∈oj.after,Region.binds md e=true→e.on≠i)→oi.apart l.toArray oj=true) →
   i∈Region.ready md l.toArray ls→Does ρ P l.toArray oi v a w →
   Walks ρ P md l R n f (ls.setIfInBounds i true) (a.put oi.dst v) w→Walks ρ P md l R n (f+1) ls a w:=by
 intro f
 induction f with
 | zero =>
  intro ls a w inv _ hr hd H
  refine⟨fun h=>(by rw[h]at hr;cases hr),fun j hj=>⟨zbQ hB inv hin hr j hj,fun w' hq=>?_⟩⟩
  by_cases hji:j=i
  ·subst hji
   exact hd.wpOp hi (ρ.q hq) fun w'' hq'=>⟨ρ.q hq',Walks.later (f:=0) H (Q.trans hq hq')⟩
  ·have h1:=zbQ hB inv hin hr j hj
   have h2:=seqB_ready H.1 j (ready_mono hj hji)
   omega
 | succ f ih =>
  intro ls a w inv hf hr hd H
  refine⟨fun h=>(by rw[h]at hr;cases hr),fun j hj=>?_⟩
  have hjn:=zbQ hB inv hin hr j hj
  refine⟨hjn,fun w' hq=>?_⟩
  by_cases hji:j=i
  ·subst hji
   exact hd.wpOp hi (ρ.q hq) fun w'' hq'=>⟨ρ.q hq',H.later (Q.trans hq hq')⟩
  ·have h1:=(H.2 j (ready_mono hj hji)).2 w' hq
   obtain⟨hjun,oj,hoj,hall⟩:=mem_ready.1 hj
   have hno:∀ e∈oj.after,Region.binds md e=true→e.on≠i:=fun e he hb heq=>by
    have h1:=hall e he hb
    rw[heq,getD_both (mem_ready.1 hr).1]at h1
    cases h1
   have h2:=zeY hoj (hf j oj hoj hji hjun hno) (fun cs b=>zcE hB i oi cs b hi) (fun cs b=>zcE hB j oj cs b hoj) hR h1
   have hf':∀ k ok,l.toArray[k]? = some ok→k≠i→(ls.setIfInBounds j true).getD k true=false →
     (∀ e∈ok.after,Region.binds md e=true→e.on≠i)→oi.apart l.toArray ok=true:=fun k ok hk hki hun hn=>by
    by_cases hjk:j=k
    ·subst hjk;exact hf j ok hk hki hjun hn
    ·rw[getD_set_ne true hjk]at hun
     exact hf k ok hk hki hun hn
   refine wpOp_mono (fun a' w'' h3=>⟨h3.2.1,ih (ls.setIfInBounds j true) a' w'' (inv.set hj hjn) hf' (ready_mono hr (Ne.symm hji)) (hd.alike h3.1 (ρ.trans (ρ.q hq) h3.2.1)) ?_⟩) h2
   rw[Array.setIfInBounds_comm _ _ hji]
   exact h3.2.2
def zl(ρ:QRel)(P:Program)(md:Region.Mode)(l:List Oper)(R:Exit→Act→World→Prop)(n f:Nat)(ls:Array Bool)(a:Act)(w:World):Prop :=
 zeb md l.toArray n=true→HeadInv md l.toArray n ls→Walks ρ P md l R n f ls a w
theorem zn(n:Nat){id:Nat}{a:Act}{w:World}(hm:P.follows .mixedOrders=true)(hB:zeb .any l.toArray n=true)(hn:decide (n≤l.length)=true)
  (h:zl ρ P .any l R n n (Array.replicate l.toArray.size false) a w.drew):(Code.region id l.toArray true).wp P R a w:=by
 have hn':n≤l.length:=by simpa using hn
 have inv0:HeadInv .any l.toArray n (Array.replicate l.toArray.size false) :=
  ⟨by simp,fun j oj _ hl=>(by rw[getD_replicate_false]at hl;cases hl),fun t _ ht=>getD_in (by simpa using ht) (getD_replicate_false _ _)⟩
 refine wp_region_any hm ?_
 have:=Walks.any hn' (h hB inv0)
 rwa[show n+(l.toArray.size - n)=l.toArray.size by simp;omega]at this
theorem zT{i:Nat}{oi:Oper}{v:Value}{f:Nat}{ls:Array Bool}{a:Act}{w:World}(hi:l[i]? = some oi)(hin:decide (i<n)=true)
  (hf:Region.free md l.toArray ls i=true)(hr:(Region.ready md l.toArray ls).contains i=true)
  (hR:∀ c a w,R (.panic c) (a.put oi.dst v) w→R (.panic c) a w)(hd:Does ρ P l.toArray oi v a w)
  (h:zl ρ P md l R n f (ls.setIfInBounds i true) (a.put oi.dst v) w):zl ρ P md l R n (f+1) ls a w:=fun hB inv=>by
 have hr':i∈Region.ready md l.toArray ls:=by simpa using hr
 have hin':i<n:=by simpa using hin
 exact zcX (zbV hi) hB hin' hR f ls a w inv (Region.free_spec (zbV hi) hf) hr' hd (h hB (inv.set hr' hin'))
theorem zS{i:Nat}{oi:Oper}{v:Value}{f:Nat}{ls:Array Bool}{a:Act}{w:World}(hi:l[i]? = some oi)(hin:decide (i<n)=true)
  (hf:Region.free md l.toArray ls i=true)(hr:(Region.ready md l.toArray ls).contains i=true)
  (hR:∀ c a w,R (.panic c) (a.put oi.dst v) w→R (.panic c) a w)(hw:Region.wanted oi (yielded l.toArray a.tmps)=true)
  (hx:∀ w',ρ.r w w'→(execOp a.eval oi).run P w'=.ok (.value v) w')
  (h:zl ρ P md l R n f (ls.setIfInBounds i true) (a.put oi.dst v) w):zl ρ P md l R n (f+1) ls a w :=
 zT hi hin hf hr hR (.inl ⟨hw,hx⟩) h
theorem zbl{i:Nat}{oi:Oper}{f:Nat}{ls:Array Bool}{a:Act}{w:World}(hi:l[i]? = some oi)(hin:decide (i<n)=true)
  (hf:Region.free md l.toArray ls i=true)(hr:(Region.ready md l.toArray ls).contains i=true)
  (hR:∀ c a w,R (.panic c) (a.put oi.dst undef) w→R (.panic c) a w)(hw:Region.wanted oi (yielded l.toArray a.tmps)=false)
  (h:zl ρ P md l R n f (ls.setIfInBounds i true) (a.put oi.dst undef) w):zl ρ P md l R n (f+1) ls a w :=
 zT hi hin hf hr hR (.inr (.inr ⟨hw,rfl⟩)) h
theorem svp(i:Nat){oi:Oper}{v:Value}{f:Nat}{ls:Array Bool}{a a':Act}{w:World}
  (h:zl ρ P md l R n f (ls.setIfInBounds i true) a' w)(hi:l[i]? = some oi:=by exact rfl)(hin:decide (i<n)=true:=by exact rfl)
  (hf:Region.free md l.toArray ls i=true:=by kernel_rfl)(hr:(Region.ready md l.toArray ls).contains i=true:=by kernel_rfl)
  (hw:Region.wanted oi (yielded l.toArray a.tmps)=true:=by rfl)
  (hx:∀ w',ρ.r w w'→(execOp a.eval oi).run P w'=.ok (.value v) w':=by intro w' hq;go_simp;try with_reducible rfl)
  (hR:∀ c a w,R (.panic c) (a.put oi.dst v) w→R (.panic c) a w:=by exact fun _ _ _ h=>h)
  (ha:a.put oi.dst v=a':=by simp only[Act.put,zs1,zs2,zs3];exact rfl):zl ρ P md l R n (f+1) ls a w :=
 zS hi hin hf hr hR hw hx (ha ▸ h)
theorem svq(i:Nat){oi:Oper}{v:Value}{f:Nat}{ls:Array Bool}{a a':Act}{w:World}(hi:l[i]? = some oi)
  (hx:∀ w',ρ.r w w'→(execOp a.eval oi).run P w'=.ok (.value v) w')
  (h:zl ρ P md l R n f (ls.setIfInBounds i true) a' w)(hin:decide (i<n)=true:=by exact rfl)
  (hf:Region.free md l.toArray ls i=true:=by kernel_rfl)(hr:(Region.ready md l.toArray ls).contains i=true:=by kernel_rfl)
  (hw:Region.wanted oi (yielded l.toArray a.tmps)=true:=by rfl)
  (hR:∀ c a w,R (.panic c) (a.put oi.dst v) w→R (.panic c) a w:=by exact fun _ _ _ h=>h)
  (ha:a.put oi.dst v=a':=by simp only[Act.put,zs1,zs2,zs3];exact rfl):zl ρ P md l R n (f+1) ls a w :=
 zS hi hin hf hr hR hw hx (ha ▸ h)
theorem svi(i:Nat){oi:Oper}{f:Nat}{ls:Array Bool}{a a':Act}{w:World}
  (h:zl ρ P md l R n f (ls.setIfInBounds i true) a' w)(hi:l[i]? = some oi:=by exact rfl)(hin:decide (i<n)=true:=by exact rfl)
  (hf:Region.free md l.toArray ls i=true:=by kernel_rfl)(hr:(Region.ready md l.toArray ls).contains i=true:=by kernel_rfl)
  (hw:Region.wanted oi (yielded l.toArray a.tmps)=false:=by rfl)
  (hR:∀ c a w,R (.panic c) (a.put oi.dst undef) w→R (.panic c) a w:=by exact fun _ _ _ h=>h)
  (ha:a.put oi.dst undef=a':=by simp only[Act.put,zs1,zs2,zs3];exact rfl):zl ρ P md l R n (f+1) ls a w :=
 zbl hi hin hf hr hR hw (ha ▸ h)
theorem zk{i:Nat}{oi:Oper}{v:Value}{n f:Nat}{ls:Array Bool}{a:Act}{w:World}{g:FuncId}{args:Array Value}(hi:l[i]? = some oi)(hin:decide (i<n)=true)
  (hf:Region.free md l.toArray ls i=true)(hr:(Region.ready md l.toArray ls).contains i=true)
  (hR:∀ c a w,R (.panic c) (a.put oi.dst v) w→R (.panic c) a w)(hw:Region.wanted oi (yielded l.toArray a.tmps)=true)
  (hx:∀ w',ρ.r w w'→(execOp a.eval oi).run P w'=.ok (.enter g args) w')
  (hc:∀ w',ρ.r w w'→Calls P g args w' fun e w''=>e=.returned v∧Q w' w'')
  (h:zl ρ P md l R n f (ls.setIfInBounds i true) (a.put oi.dst v) w):zl ρ P md l R n (f+1) ls a w :=
 zT hi hin hf hr hR (.inr (.inl ⟨hw,g,args,hx,hc⟩)) h
theorem zad{i:Nat}{oi:Oper}{f:Nat}{ls:Array Bool}{a:Act}{w:World}(hi:l[i]? = some oi)(hin:decide (i<n)=true)
  (hr:Region.ready md l.toArray ls=[i])(hw:Region.wanted oi (yielded l.toArray a.tmps)=true)
  (h:∀ w',Q w w'→∀ K:Act→World→Prop,(∀ v w'',ρ.r w' w''→zl ρ P md l R n f (ls.setIfInBounds i true) (a.put oi.dst v) w''→K (a.put oi.dst v) w'')→Oper.wp P oi a w' K R):zl ρ P md l R n (f+1) ls a w:=fun hB inv=>by
 have hr':i∈Region.ready md l.toArray ls:=by rw[hr];simp
 have hin':i<n:=by simpa using hin
 refine⟨fun h=>(by rw[h]at hr;cases hr),fun j hj=>?_⟩
 rw[hr]at hj
 obtain rfl:j=i:=by simpa using hj
 refine⟨hin',fun w' hq=>?_⟩
 unfold wpOp
 simp only[zbV hi]
 rw[if_pos hw]
 exact .inl (h w' hq _ fun v w'' hq' hS=>⟨hq',hS hB (inv.set hr' hin')⟩)
theorem zaI{i:Nat}{oi:Oper}{f:Nat}{ls:Array Bool}{a:Act}{w:World}(o:Obj)(hi:l[i]? = some oi)(hin:decide (i<n)=true)
  (hr:Region.ready md l.toArray ls=[i])(hw:Region.wanted oi (yielded l.toArray a.tmps)=true)
  (hx:∀ w',Q w w'→(execOp a.eval oi).run P w'=.ok (.value (.pointer (some ⟨w'.heap.size,0,none⟩))) (w'.alloc o))
  (h:∀ w',Q w w'→zl ρ P md l R n f (ls.setIfInBounds i true) (a.put oi.dst (.pointer (some ⟨w'.heap.size,0,none⟩))) (w'.alloc o)):zl ρ P md l R n (f+1) ls a w :=
 zad hi hin hr hw fun w' hq K hK=>by
  unfold Oper.wp
  rw[hx w' hq]
  exact hK _ _ (ρ.q ((Below.refl _ _).alloc (Nat.le_refl _) _)) (h w' hq)
theorem zaa{i:Nat}{oi:Oper}{n f:Nat}{ls:Array Bool}{a:Act}{w:World}{g:FuncId}{args:Array Value}(hi:l[i]? = some oi)(hin:decide (i<n)=true)
  (hr:Region.ready md l.toArray ls=[i])(hw:Region.wanted oi (yielded l.toArray a.tmps)=true)
  (hx:∀ w',Q w w'→(execOp a.eval oi).run P w'=.ok (.enter g args) w')
  (hc:∀ w',Q w w'→Calls P g args w' fun e w''=>∃ v,e=.returned v∧Q w' w''∧zl ρ P md l R n f (ls.setIfInBounds i true) (a.put oi.dst v) w''):zl ρ P md l R n (f+1) ls a w :=
 zad hi hin hr hw fun w' hq K hK=>by
  unfold Oper.wp
  rw[hx w' hq]
  refine(hc w' hq).mono fun e w'' he=>?_
  obtain⟨v,rfl,h1,h2⟩:=he
  exact hK v w'' (ρ.q h1) h2
theorem zex{i j:Nat}{oi oj:Oper}{f:Nat}{ls:Array Bool}{a:Act}{w:World}(o1 o2:Obj)(hi:l[i]? = some oi)(hj:l[j]? = some oj)(hin:decide (i<n)=true)(hjn:decide (j<n)=true)
  (hr:Region.ready md l.toArray ls=[i,j])(hwi:Region.wanted oi (yielded l.toArray a.tmps)=true)(hwj:Region.wanted oj (yielded l.toArray a.tmps)=true)
  (hx:∀ w',Q w w'→(execOp a.eval oi).run P w'=.ok (.value (.pointer (some ⟨w'.heap.size,0,none⟩))) (w'.alloc o1))
  (hy:∀ w',Q w w'→(execOp a.eval oj).run P w'=.ok (.value (.pointer (some ⟨w'.heap.size,0,none⟩))) (w'.alloc o2))
  (h1:∀ w',Q w w'→zl ρ P md l R n f (ls.setIfInBounds i true) (a.put oi.dst (.pointer (some ⟨w'.heap.size,0,none⟩))) (w'.alloc o1))
  (h2:∀ w',Q w w'→zl ρ P md l R n f (ls.setIfInBounds j true) (a.put oj.dst (.pointer (some ⟨w'.heap.size,0,none⟩))) (w'.alloc o2)):zl ρ P md l R n (f+1) ls a w:=fun hB inv=>by
 have hri:i∈Region.ready md l.toArray ls:=by rw[hr];simp
 have hrj:j∈Region.ready md l.toArray ls:=by rw[hr];simp
 have hin':i<n:=by simpa using hin
 have hjn':j<n:=by simpa using hjn
 refine⟨fun h=>(by rw[h]at hr;cases hr),fun k hk=>?_⟩
 rw[hr]at hk
 have hk':k=i∨k=j:=by simpa using hk
 rcases hk' with rfl | rfl
 ·refine⟨hin',fun w' hq=>?_⟩
  unfold wpOp
  simp only[zbV hi]
  rw[if_pos hwi]
  left
  unfold Oper.wp
  rw[hx w' hq]
  exact⟨ρ.q ((Below.refl _ _).alloc (Nat.le_refl _) _),h1 w' hq hB (inv.set hri hin')⟩
 ·refine⟨hjn',fun w' hq=>?_⟩
  unfold wpOp
  simp only[zbV hj]
  rw[if_pos hwj]
  left
  unfold Oper.wp
  rw[hy w' hq]
  exact⟨ρ.q ((Below.refl _ _).alloc (Nat.le_refl _) _),h2 w' hq hB (inv.set hrj hjn')⟩
theorem zh{ls:Array Bool}{a:Act}{w:World}(hB:Region.seqB md l.toArray (l.toArray.size - n) n ls=true)(h:∀ w',Q w w'→wpList P l.toArray R (l.drop n) a w'):zl ρ P md l R n 0 ls a w :=
 fun _ _=>⟨hB,h⟩
theorem zaT{i:Nat}{oi:Oper}{f:Nat}{ls:Array Bool}{a:Act}{w:World}(x:World→World)(hi:l[i]? = some oi)(hin:decide (i<n)=true)
  (hr:Region.ready md l.toArray ls=[i])(hw:Region.wanted oi (yielded l.toArray a.tmps)=true)
  (hx:∀ w',Q w w'→(execOp a.eval oi).run P w'=.ok .skip (x w'))(hρ:∀ w',ρ.r w' (x w'))
  (h:∀ w',Q w w'→zl ρ P md l R n f (ls.setIfInBounds i true) (a.put oi.dst undef) (x w')):zl ρ P md l R n (f+1) ls a w :=
 zad hi hin hr hw fun w' hq K hK=>by
  unfold Oper.wp
  rw[hx w' hq]
  exact hK _ _ (hρ w') (h w' hq)
theorem zaG{m k:Nat}{l0:List Oper}(n:Nat){id:Nat}{a:Act}{w:World}(hm:P.follows .mixedOrders=true)(hB:zeb .any l0.toArray n=true)(hn:decide (n≤l0.length)=true)(hnd:zfF l0.toArray=true)
  (h:zl ρ P .any l0 (zbC fun a w=>R .normal a w) n n (Array.replicate l0.toArray.size false) a w.drew):(Code.region id l0.toArray true).wpIn (Fence.wide.inRound k) m P R a w:=by
 have hn':n≤l0.length:=by simpa using hn
 have inv0:HeadInv .any l0.toArray n (Array.replicate l0.toArray.size false) :=
  ⟨by simp,fun j oj _ hl=>(by rw[getD_replicate_false]at hl;cases hl),fun t _ ht=>getD_in (by simpa using ht) (getD_replicate_false _ _)⟩
 refine wpIn_region_any hm (zdV hnd (fun _ _ h=>h) _ _ _ _ ?_)
 have:=Walks.any hn' (h hB inv0)
 rwa[show n+(l0.toArray.size - n)=l0.toArray.size by simp;omega]at this
end
end RF
end
end Go.Proofs.YtapnkgdnflofbaaGreatDoor
