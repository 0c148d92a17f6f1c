/-
  Walks of package plan: the rectangles of the sides of any plan are gathered.
-/
import Derived.Test.YtapnkgdnflofbaaGreatDoorCH17
set_option maxRecDepth 100000
set_option maxHeartbeats 8000000
namespace Go.Proofs.YtapnkgdnflofbaaGreatDoor
open Go.RowKit Go.Shelf Kp
attribute [local go_sem] Oper.semAt_some
theorem znk(R:List (List Sd))(hn:R.length≤1000)(hlen:∀ r∈R,0<r.length∧r.length≤1000)(hcn:zaK R≤1000)(v:Value)(w:World)(hv:zi9 w v R)(hl0:0<R.length) :
  CallsIn Fence.wide 9 Tryz.prog 188 #[v] w fun e w'=>e=.returned (.bool (zdm R))∧Q w w':=by
 have HRI:Hid (∀ W,Q w W→∃ a cap,v=.slice a R.length cap∧∀ i,i<R.length→∃ b o a2 c2,a=some ⟨b,o,none⟩∧W.cell? ⟨b,o+i,none⟩=some (.slice a2 (ringAt R i).length c2)∧zci W a2 (ringAt R i)∧∀ k∈zbM a2,k<w.heap.size):=LH (fun W hq=>by
  obtain⟨a,cap,rfl,hc⟩:=hv.ring (fun r hr=>(hlen r hr).1)
  refine⟨a,cap,rfl,fun i hi=>?_⟩
  obtain⟨b,o,a2,c2,h1,h2,h3,h4⟩:=hc i hi
  exact⟨b,o,a2,c2,h1,za hq h2,h3.q hq,h4⟩)
 have HR:Hid (∀ i,i<R.length→0<(ringAt R i).length∧(ringAt R i).length≤1000):=LH (fun i hi=>by
  have hm:ringAt R i∈R:=by rw[zaE hi];exact List.getElem_mem hi
  exact hlen _ hm)
 have HLn:Hid (∀ k i,k<R.length→i≤(ringAt R k).length→(sofar R k i).length≤1000):=LH (fun k i hk hi=>by
  have h1:=zj3 R (k+1) (by omega)
  rw[← zll]at h1
  unfold sofar at h1 ⊢
  rw[List.length_append,List.length_take,zeA]at h1 ⊢
  omega)
 obtain⟨a0,cap0,rfl,hc⟩:=hv.ring (fun r hr=>(hlen r hr).1)
 obtain⟨b0,o0,-,-,rfl,-⟩:=hc 0 hl0
 clear hc hv hlen
 refine callsIn_of_wp_marks Tryz.func188 rfl trivial ?_ rfl
 simp only[Tryz.ntmps188,List.size_toArray,List.length_cons,List.length_nil,Nat.reduceAdd,Nat.reduceSub,Array.replicate_succ,Array.replicate_zero,List.push_toArray,List.append_toArray,List.nil_append,List.cons_append]
 refine wpIn_mono ?_ zoU
 refine wpIn_wide.2 ?_
 go_wp2
 obtain⟨W0,hW0⟩:∃ W0,(w.alloc (.cells #[.slice none 0 0] 311)).alloc (.cells #[.slice none 0 0] 312)=W0:=⟨_,rfl⟩
 have hq0:Q w W0:=by rw[← hW0];exact bt
 have hs0:W0.heap.size=w.heap.size+2:=by rw[← hW0];simp
 have bA:Boxed W0 w.heap.size 311 (.slice none 0 0):=by
  rw[← hW0]
  exact(Boxed.new w _ _).alloc _
 have bP:Boxed W0 (w.heap.size+1) 312 (.slice none 0 0):=by
  rw[← hW0]
  have:=Boxed.new (w.alloc (.cells #[.slice none 0 0] 311)) 312 (.slice none 0 0)
  rw[World.size_alloc]at this;exact this
 rw[hW0]
 clear hW0
 refine wp_loop (fun a W=>∃ (k:Nat) (ds:List Deferred) (u5 u6 u17 u18 u19 u20 u21 u22 u36:Value),k≤R.length∧a={ tmps:=#[.slice (some ⟨b0,o0,none⟩) R.length cap0,undef,.bool false,.pointer (some ⟨w.heap.size,0,none⟩),.pointer (some ⟨w.heap.size+1,0,none⟩),u5,u6,undef,undef,undef,undef,undef,undef,undef,.slice (some ⟨b0,o0,none⟩) R.length cap0,.int .i64 (R.length:Nat),.int .i64 (k:Nat),u17,u18,u19,u20,u21,u22,undef,undef,undef,undef,undef,undef,undef,undef,undef,undef,undef,undef,undef,u36,undef,undef,undef,undef,undef,undef,undef,undef,undef,undef,undef,undef,undef,undef,undef,undef,undef,undef,undef,undef,undef,undef,undef,undef,undef,undef,undef,undef,undef,undef,undef,undef,undef,undef,undef,undef,undef,undef,undef,undef,undef,undef,undef,undef,undef,undef,undef,undef,undef,undef,undef,undef,undef,undef,undef,undef,undef,undef,undef,undef,undef,undef,undef,undef,undef],defers:=ds }∧(∃ vA vP,CrossR w (zbD R k) vA vP W)∧Marks (w.heap.size+2) W.heap.size ds W) (fun a _=>R.length - (intOf (a.tmps.getD 16 undef)).toNat) ⟨0,[],undef,undef,undef,undef,undef,undef,undef,undef,undef,by omega,rfl,⟨_,_,bA,bP,World.ownsRow_nil _ _ _ _,World.ownsRow_nil _ _ _ _,hq0,by omega⟩,trivial⟩ ?_
 rintro ac W⟨k,ds,u5,u6,u17,u18,u19,u20,u21,u22,u36,hk,rfl,⟨vA0,vP0,hJ⟩,hM⟩
 by_cases hlt:k<R.length
 ·obtain⟨a',cap',he,hcc⟩:=HRI.out W hJ.q
  obtain⟨b1,o1,a,cap,ha,hcell,hrow,hba⟩:=hcc k hlt
  injection he with he1 he2 he3
  rw[ha]at he1
  injection he1 with he1
  injection he1 with he4 he5
  subst he3 he4 he5
  have hkz:(k:Int)<R.length:=by omega
  have hk0:(0:Int)≤k:=by omega
  obtain⟨hr0,hlenr⟩:=HR.out k hlt
  have HLk:=LH (fun i hi=>HLn.out k i hlt hi)
  have HSu:=LH (fun i hi=>zor R k (i:=i) hi)
  have HSe:=LH (zll R k)
  obtain⟨r,hrr⟩:∃ r,ringAt R k=r:=⟨_,rfl⟩
  rw[hrr]at hcell hrow hr0 hlenr HLk HSu HSe
  clear hrr hcc ha
  go_wp2_with fail
  refine(zdM a r.length cap _).mono ?_
  rintro e w2⟨rfl,rfl⟩
  obtain⟨W2,hW2⟩:∃ W2,(W.alloc (.cells #[.int .i64 (k:Nat)] 3)).alloc (.cells #[.slice a r.length cap] 75)=W2:=⟨_,rfl⟩
  have hq2:Q W W2:=by rw[← hW2];exact((Below.refl _ W).alloc (Nat.le_refl _) _).alloc (by simp) _
  have hs2:W2.heap.size=W.heap.size+2:=by rw[← hW2];simp
  have bR:Blk W2 W.heap.size [.int .i64 (k:Nat)] 3:=by rw[← hW2];exact(Blk.new W _ _).alloc _
  have bS:Blk W2 (W.heap.size+1) [.slice a r.length cap] 75:=by rw[← hW2];exact Blk.new1 W _ _ _
  have hJ2:=hJ.kc (KC.q hq2) hq2
  have hM2:=Marks.below hq2 (Nat.le_refl _) hM
  have hjz:=hJ.sz
  have hw2:=hJ2.q
  rw[World.size_alloc,hW2]
  clear hW2
  go_wp2_with fail
  refine(wpIn_wide (n:=9)).1 ?_
  refine zbb (m:=9) (gf:=288) (lb:=#[.pointer (some ⟨W.heap.size+1,0,none⟩)]) (by omega) rfl (enters_of Tryz.func288 (by kernel_rfl) rfl)
   (zdH (W.heap.size+1) r a cap hlenr W2 8 (by omega) (bS.cell 0) (hrow.q hq2)) (fun k hk=>by
    rw[List.mem_cons]at hk
    rcases hk with rfl | hk
    ·omega
    ·have:=hba k hk;omega) (fun _=>rfl)
   (fun i V=>∃ vA vP,CrossR w (sofar R k i) vA vP V∧Blk V W.heap.size [.int .i64 (k:Nat)] 3∧Blk V (W.heap.size+1) [.slice a r.length cap] 75∧Marks (w.heap.size+2) W.heap.size ds V)
   (fun _ _=>False)
   (fun i V V' h kc hb=>by
    obtain⟨vA,vP,h1,h2,h3,h4⟩:=h
    exact⟨vA,vP,⟨zu h1.bA kc,zu h1.bP kc,zJ h1.oA kc,zJ h1.oP kc,Below.trans h1.q (hb.mono (by omega)),Nat.le_trans h1.sz kc.1⟩,h2.kc kc,h3.kc kc,Marks.below hb (by omega) h4⟩) (fun _ _ _ h _ _=>h) ⟨_,_,by rw[zoq];exact hJ2,bR,bS,hM2⟩
   (fun x ac V=>∃ b,w.heap.size+2≤b∧ac={ tmps:=#[.slice (some ⟨b0,o0,none⟩) R.length cap0,undef,.bool false,.pointer (some ⟨w.heap.size,0,none⟩),.pointer (some ⟨w.heap.size+1,0,none⟩),.pointer (some ⟨W.heap.size,0,none⟩),.slice a r.length cap,.int .i64 (x.1:Nat),.pointer (some ⟨b,0,none⟩),undef,undef,undef,undef,undef,.slice (some ⟨b0,o0,none⟩) R.length cap0,.int .i64 (R.length:Nat),.int .i64 (k:Nat),.bool true,.int .i64 (k:Nat),.pointer (some ⟨b0,o0+k,none⟩),.slice a r.length cap,.slice a r.length cap,.func (.func 288) #[] #[.pointer (some ⟨W.heap.size+1,0,none⟩)],.int .i64 (x.1:Nat),.agg (zfN (arn r x.1)).toArray,undef,undef,undef,undef,undef,undef,undef,undef,undef,undef,undef,u36,undef,undef,undef,undef,undef,undef,undef,undef,undef,undef,undef,undef,undef,undef,undef,undef,undef,undef,undef,undef,undef,undef,undef,undef,undef,undef,undef,undef,undef,undef,undef,undef,undef,undef,undef,undef,undef,undef,undef,undef,undef,undef,undef,undef,undef,undef,undef,undef,undef,undef,undef,undef,undef,undef,undef,undef,undef,undef,undef,undef,undef,undef,undef,undef,undef],defers:=[] }∧Blk V b (zfN (arn r x.1)) 305)
   (fun x ac V V' h kc=>by
    obtain⟨b,h1,h2,h3⟩:=h
    exact⟨b,h1,h2,h3.kc kc⟩)
   ?assign ?body ?done ?stop
  case assign =>
   intro l x V K hV hK
   have hst:=fun V=>zew (arn r x.1) V
   have hk:=hK _ (V.alloc (.cells (zfN (arn r x.1)).toArray 305)) ((Below.refl _ V).alloc (Nat.le_refl _) _) ⟨V.heap.size,by omega,rfl,Blk.new V _ _⟩
   clear hK
   gi_wp2
   exact hk
  case stop =>
   rintro D c V _ h _
   exact h.elim
  case body =>
   rintro l i hi a1 V⟨vA,vP,hC,hR,hL,hMV⟩ ⟨b,hbb,rfl,hA⟩
   have hmix:Tryz.prog.follows .mixedOrders=true:=by kernel_rfl
   simp only at hA ⊢
   obtain⟨c0,ci,cz0,cz1,cz2⟩:=zbU zsK
   obtain⟨p0,pi,pz0,pz1,pz2⟩:=zbU zql
   have HO:=LH (fun w=>zoG (arn r i) w)
   have HT:=LH (HSu.out i hi)
   have hsl:=HLk.out i (by omega)
   obtain⟨lx,ly,hx,hy,hbx⟩:∃ lx ly hx hy,zta (arn r i)=⟨lx,ly,hx,hy⟩:=⟨_,_,_,_,rfl⟩
   rw[hbx]at HO HT
   simp only[bxC]at HO
   clear hbx
   generalize arn r i=ar at *
   obtain⟨bA,bP,oA,oP,hQ,hsz⟩:=hC
   have hL0:=hL
   have H0:∀ W',(zsa (w.heap.size+2) b W.heap.size).r V.drew W'→Below (w.heap.size+2) V.drew W'∧Blk W' b (zfN ar) 305∧Blk W' W.heap.size [.int .i64 (k:Nat)] 3:=fun W' hq=>by
    obtain⟨h1,h2,h3⟩:=hq hsz hA.lt hR.lt
    exact⟨h1,h2.trans hA,h3.trans hR⟩
   have kA:∀ W',(zsa (w.heap.size+2) b W.heap.size).r V.drew W'→W'.cell? ⟨w.heap.size,0,none⟩=some vA:=fun W' hq=>(World.cell?_of_block ((H0 W' hq).1.block w.heap.size (by omega))).trans bA.cell
   have kP:∀ W',(zsa (w.heap.size+2) b W.heap.size).r V.drew W'→W'.cell? ⟨w.heap.size+1,0,none⟩=some vP:=fun W' hq=>(World.cell?_of_block ((H0 W' hq).1.block (w.heap.size+1) (by omega))).trans bP.cell
   have kR:∀ W',(zsa (w.heap.size+2) b W.heap.size).r V.drew W'→W'.cell? ⟨W.heap.size,0,none⟩=some (.int .i64 (k:Nat)):=fun W' hq=>(H0 W' hq).2.2.cell 0
   gi_wp2
   refine RF.zaG (ρ:=(zsa (w.heap.size+2) b W.heap.size)) 11 hmix (by kernel_rfl) rfl (by kernel_rfl) ?_
   refine RF.svq 0 rfl (by intro w' hq;have hc0:=kA w' hq;go_simp;try with_reducible rfl) ?_
   refine RF.zS (i:=1) (v:=_) rfl rfl (by kernel_rfl) (by kernel_rfl) (fun _ _ _ h=>h) (by rfl) (fun w' hq=>zcT 305 (.tmp 8) rfl b rfl (H0 w' hq).2.1 _ Tryz.underlying305 rfl (by kernel_rfl)) ?_
   simp only[Act.put,zs1,zs2,zs3]
   refine RF.zk (i:=2) (v:=_) rfl rfl (by kernel_rfl) (by kernel_rfl) (fun _ _ _ h=>h) (by rfl) ?_ (fun w' hq=>HO.out w') ?_
   ·(intro w' hq;go_simp;try with_reducible rfl)
   simp only[Act.put,zs1,zs2,zs3]
   refine RF.svq 5 rfl (by intro w' hq;have hc0:=kP w' hq;go_simp;try with_reducible rfl) ?_
   refine RF.svq 6 rfl (by intro w' hq;have hc0:=kR w' hq;go_simp;try with_reducible rfl) ?_
   refine RF.svp 7 ?_
   refine RF.svp 8 ?_
   clear HO kA kP kR H0
   have hG:Gr (w.heap.size+2) V V.drew:=(Gr.refl _ _).drew
   replace oA:V.drew.ownsRow (w.heap.size+2) 314 4 vA (sofar R k i).length (rowOf ztl (sofar R k i)):=oA
   replace oP:V.drew.ownsRow (w.heap.size+2) 317 2 vP (sofar R k i).length (rowOf ztQ (sofar R k i)):=oP
   replace hA:Blk V.drew b (zfN ar) 305:=hA
   replace hR:Blk V.drew W.heap.size [.int .i64 (k:Nat)] 3:=hR
   replace hL:Blk V.drew (W.heap.size+1) [.slice a r.length cap] 75:=hL
   have oneA:∀ u∈[Value.int .i64 lx,.int .i64 ly,.int .i64 hx,.int .i64 hy],u.oneCell'=true:=by
    intro z hz
    simp only[List.mem_cons,List.not_mem_nil,or_false]at hz
    rcases hz with rfl | rfl | rfl | rfl <;> rfl
   have oneP:∀ u∈[Value.int .i64 (k:Nat),.int .i64 (i:Nat)],u.oneCell'=true:=by
    intro z hz
    simp only[List.mem_cons,List.not_mem_nil,or_false]at hz
    rcases hz with rfl | rfl <;> rfl
   refine RF.steadily_both (i:=3) (j:=9) rfl rfl rfl rfl (by kernel_rfl) (by rfl) (by rfl) (fun w1 hq1 K hK=>?m3) (fun w1 hq1 K hK=>?m9)
   case' m3 =>
    have hqa:Q _ (w1.alloc (.cells [.int .i64 lx,.int .i64 ly,.int .i64 hx,.int .i64 hy].toArray 314)):=Q.trans hq1 ((Below.refl _ _).alloc (Nat.le_refl _) _)
    replace hG:=hG.q hsz hqa
    replace oA:=zi oA hqa
    replace oP:=zi oP hqa
    replace hA:=hA.keep hqa hA.lt
    replace hR:=hR.keep hqa hR.lt
    replace hL:=hL.keep hqa hL.lt
    have T3:=Blk.new w1 [.int .i64 lx,.int .i64 ly,.int .i64 hx,.int .i64 hy] 314
    refine zge (.slice (some ⟨w1.heap.size,0,none⟩) 1 1) (.cells #[.int .i64 lx,.int .i64 ly,.int .i64 hx,.int .i64 hy] 314) (by go_simp;try with_reducible rfl) (hK _ _ ((zsa (w.heap.size+2) b W.heap.size).q ((Below.refl _ _).alloc (Nat.le_refl _) _)) ?_)
    clear hK
    clear hqa hq1
    generalize w1.alloc _=w2 at *
    generalize w1.heap.size=t3 at *
    simp only[Act.put,zs1,zs2,zs3]
    refine RF.steadily_both (i:=4) (j:=9) rfl rfl rfl rfl (by kernel_rfl) (by rfl) (by rfl) (fun w3 hq3 K hK=>?m34) (fun w3 hq3 K hK=>?m39)
   case' m34 =>
    replace hG:=hG.q hsz hq3
    replace oA:=zi oA hq3
    replace oP:=zi oP hq3
    replace hA:=hA.keep hq3 hA.lt
    replace hR:=hR.keep hq3 hR.lt
    replace hL:=hL.keep hq3 hL.lt
    replace T3:=T3.keep hq3 T3.lt
    have hsz3:=Nat.le_trans hsz hG.low.size
    refine zcs w3 (.tmp 25) (.tmp 28) 311 rfl (w.heap.size+2) 314 c0 _ 4 32 Tryz.underlying311 ci cz0 cz1 cz2 rfl (by decide) vA (sofar R k i).length (rowOf ztl (sofar R k i)) rfl oA ⟨t3,0,none⟩ 1 1 [.int .i64 lx,.int .i64 ly,.int .i64 hx,.int .i64 hy] rfl rfl (fun j z hj=>by rw[Addr.add_lit,Nat.zero_add];exact(T3.cell j).trans hj) oneA (by unfold maxLen;omega) (by omega) hsz3 (fun vA2 w4 oA2 hg=>hK _ _ (fun h hb hc=>⟨(Below.refl _ _).grown hg h (fun j hj=>(oA.lt j hj).1),hg.block b hb (hA.not_row (by decide) oA),hg.block _ hc (hR.not_row (by decide) oA)⟩) ?_)
    replace hG:=hG.row hsz oA (Nat.le_refl _) hg
    replace hA:=hA.grown hg (hA.not_row (by decide) oA)
    replace hR:=hR.grown hg (hR.not_row (by decide) oA)
    replace hL:=hL.grown hg (hL.not_row (by decide) oA)
    replace oP:=oP.kept hg (zfX oP oA (by decide))
    simp only[Act.put,zs1,zs2,zs3]
    clear hK hq3 hsz3 T3 hg oA
    refine RF.zaH (i:=9) (fun w'=>.slice (some ⟨w'.heap.size,0,none⟩) 1 1) (.cells #[.int .i64 (k:Nat),.int .i64 (i:Nat)] 317) rfl rfl (by kernel_rfl) (by rfl) (fun w' hq=>by go_simp;try with_reducible rfl) (fun w5 hq5=>?_)
    have hqa:Q _ (w5.alloc (.cells [.int .i64 (k:Nat),.int .i64 (i:Nat)].toArray 317)):=Q.trans hq5 ((Below.refl _ _).alloc (Nat.le_refl _) _)
    replace hG:=hG.q hsz hqa
    replace oA2:=zi oA2 hqa
    replace oP:=zi oP hqa
    replace hA:=hA.keep hqa hA.lt
    replace hR:=hR.keep hqa hR.lt
    replace hL:=hL.keep hqa hL.lt
    have T9:=Blk.new w5 [.int .i64 (k:Nat),.int .i64 (i:Nat)] 317
    simp only[Act.put,zs1,zs2,zs3]
    clear hqa hq5
    generalize w5.alloc _=w6 at *
    generalize w5.heap.size=t9 at *
   case' m39 =>
    have hqa:Q _ (w3.alloc (.cells [.int .i64 (k:Nat),.int .i64 (i:Nat)].toArray 317)):=Q.trans hq3 ((Below.refl _ _).alloc (Nat.le_refl _) _)
    replace hG:=hG.q hsz hqa
    replace oA:=zi oA hqa
    replace oP:=zi oP hqa
    replace hA:=hA.keep hqa hA.lt
    replace hR:=hR.keep hqa hR.lt
    replace hL:=hL.keep hqa hL.lt
    replace T3:=T3.keep hqa T3.lt
    have T9:=Blk.new w3 [.int .i64 (k:Nat),.int .i64 (i:Nat)] 317
    refine zge (.slice (some ⟨w3.heap.size,0,none⟩) 1 1) (.cells #[.int .i64 (k:Nat),.int .i64 (i:Nat)] 317) (by go_simp;try with_reducible rfl) (hK _ _ ((zsa (w.heap.size+2) b W.heap.size).q ((Below.refl _ _).alloc (Nat.le_refl _) _)) ?_)
    clear hK
    clear hqa hq3
    generalize w3.alloc _=w4 at *
    generalize w3.heap.size=t9 at *
    simp only[Act.put,zs1,zs2,zs3]
    refine RF.zad (i:=4) rfl rfl (by kernel_rfl) (by rfl) (fun w5 hq5 K hK=>?_)
    replace hG:=hG.q hsz hq5
    replace oA:=zi oA hq5
    replace oP:=zi oP hq5
    replace hA:=hA.keep hq5 hA.lt
    replace hR:=hR.keep hq5 hR.lt
    replace hL:=hL.keep hq5 hL.lt
    replace T3:=T3.keep hq5 T3.lt
    replace T9:=T9.keep hq5 T9.lt
    have hsz3:=Nat.le_trans hsz hG.low.size
    refine zcs w5 (.tmp 25) (.tmp 28) 311 rfl (w.heap.size+2) 314 c0 _ 4 32 Tryz.underlying311 ci cz0 cz1 cz2 rfl (by decide) vA (sofar R k i).length (rowOf ztl (sofar R k i)) rfl oA ⟨t3,0,none⟩ 1 1 [.int .i64 lx,.int .i64 ly,.int .i64 hx,.int .i64 hy] rfl rfl (fun j z hj=>by rw[Addr.add_lit,Nat.zero_add];exact(T3.cell j).trans hj) oneA (by unfold maxLen;omega) (by omega) hsz3 (fun vA2 w6 oA2 hg=>hK _ _ (fun h hb hc=>⟨(Below.refl _ _).grown hg h (fun j hj=>(oA.lt j hj).1),hg.block b hb (hA.not_row (by decide) oA),hg.block _ hc (hR.not_row (by decide) oA)⟩) ?_)
    replace hG:=hG.row hsz oA (Nat.le_refl _) hg
    replace hA:=hA.grown hg (hA.not_row (by decide) oA)
    replace hR:=hR.grown hg (hR.not_row (by decide) oA)
    replace hL:=hL.grown hg (hL.not_row (by decide) oA)
    replace T9:=T9.grown hg (T9.not_row (by decide) oA)
    replace oP:=oP.kept hg (zfX oP oA (by decide))
    simp only[Act.put,zs1,zs2,zs3]
    clear hK hq5 hsz3 T3 hg oA
   case' m9 =>
    have hqa:Q _ (w1.alloc (.cells [.int .i64 (k:Nat),.int .i64 (i:Nat)].toArray 317)):=Q.trans hq1 ((Below.refl _ _).alloc (Nat.le_refl _) _)
    replace hG:=hG.q hsz hqa
    replace oA:=zi oA hqa
    replace oP:=zi oP hqa
    replace hA:=hA.keep hqa hA.lt
    replace hR:=hR.keep hqa hR.lt
    replace hL:=hL.keep hqa hL.lt
    have T9:=Blk.new w1 [.int .i64 (k:Nat),.int .i64 (i:Nat)] 317
    refine zge (.slice (some ⟨w1.heap.size,0,none⟩) 1 1) (.cells #[.int .i64 (k:Nat),.int .i64 (i:Nat)] 317) (by go_simp;try with_reducible rfl) (hK _ _ ((zsa (w.heap.size+2) b W.heap.size).q ((Below.refl _ _).alloc (Nat.le_refl _) _)) ?_)
    clear hK
    clear hqa hq1
    generalize w1.alloc _=w2 at *
    generalize w1.heap.size=t9 at *
    simp only[Act.put,zs1,zs2,zs3]
    refine RF.zaH (i:=3) (fun w'=>.slice (some ⟨w'.heap.size,0,none⟩) 1 1) (.cells #[.int .i64 lx,.int .i64 ly,.int .i64 hx,.int .i64 hy] 314) rfl rfl (by kernel_rfl) (by rfl) (fun w' hq=>by go_simp;try with_reducible rfl) (fun w3 hq5=>?_)
    have hqa:Q _ (w3.alloc (.cells [.int .i64 lx,.int .i64 ly,.int .i64 hx,.int .i64 hy].toArray 314)):=Q.trans hq5 ((Below.refl _ _).alloc (Nat.le_refl _) _)
    replace hG:=hG.q hsz hqa
    replace oA:=zi oA hqa
    replace oP:=zi oP hqa
    replace hA:=hA.keep hqa hA.lt
    replace hR:=hR.keep hqa hR.lt
    replace hL:=hL.keep hqa hL.lt
    replace T9:=T9.keep hqa T9.lt
    have T3:=Blk.new w3 [.int .i64 lx,.int .i64 ly,.int .i64 hx,.int .i64 hy] 314
    simp only[Act.put,zs1,zs2,zs3]
    clear hqa hq5
    generalize w3.alloc _=w4 at *
    generalize w3.heap.size=t3 at *
    refine RF.zad (i:=4) rfl rfl (by kernel_rfl) (by rfl) (fun w5 hq5 K hK=>?_)
    replace hG:=hG.q hsz hq5
    replace oA:=zi oA hq5
    replace oP:=zi oP hq5
    replace hA:=hA.keep hq5 hA.lt
    replace hR:=hR.keep hq5 hR.lt
    replace hL:=hL.keep hq5 hL.lt
    replace T3:=T3.keep hq5 T3.lt
    replace T9:=T9.keep hq5 T9.lt
    have hsz3:=Nat.le_trans hsz hG.low.size
    refine zcs w5 (.tmp 25) (.tmp 28) 311 rfl (w.heap.size+2) 314 c0 _ 4 32 Tryz.underlying311 ci cz0 cz1 cz2 rfl (by decide) vA (sofar R k i).length (rowOf ztl (sofar R k i)) rfl oA ⟨t3,0,none⟩ 1 1 [.int .i64 lx,.int .i64 ly,.int .i64 hx,.int .i64 hy] rfl rfl (fun j z hj=>by rw[Addr.add_lit,Nat.zero_add];exact(T3.cell j).trans hj) oneA (by unfold maxLen;omega) (by omega) hsz3 (fun vA2 w6 oA2 hg=>hK _ _ (fun h hb hc=>⟨(Below.refl _ _).grown hg h (fun j hj=>(oA.lt j hj).1),hg.block b hb (hA.not_row (by decide) oA),hg.block _ hc (hR.not_row (by decide) oA)⟩) ?_)
    replace hG:=hG.row hsz oA (Nat.le_refl _) hg
    replace hA:=hA.grown hg (hA.not_row (by decide) oA)
    replace hR:=hR.grown hg (hR.not_row (by decide) oA)
    replace hL:=hL.grown hg (hL.not_row (by decide) oA)
    replace T9:=T9.grown hg (T9.not_row (by decide) oA)
    replace oP:=oP.kept hg (zfX oP oA (by decide))
    simp only[Act.put,zs1,zs2,zs3]
    clear hK hq5 hsz3 T3 hg oA
   all_goals
    refine RF.zad (i:=10) rfl rfl (by kernel_rfl) (by rfl) (fun w7 hq7 K hK=>?_)
    replace hG:=hG.q hsz hq7
    replace oA2:=zi oA2 hq7
    replace oP:=zi oP hq7
    replace hA:=hA.keep hq7 hA.lt
    replace hR:=hR.keep hq7 hR.lt
    replace hL:=hL.keep hq7 hL.lt
    replace T9:=T9.keep hq7 T9.lt
    have hsz3:=Nat.le_trans hsz hG.low.size
    refine zcs w7 (.tmp 30) (.tmp 34) 312 rfl (w.heap.size+2) 317 p0 _ 2 16 Tryz.underlying312 pi pz0 pz1 pz2 rfl (by decide) vP (sofar R k i).length (rowOf ztQ (sofar R k i)) rfl oP ⟨t9,0,none⟩ 1 1 [.int .i64 (k:Nat),.int .i64 (i:Nat)] rfl rfl (fun j z hj=>by rw[Addr.add_lit,Nat.zero_add];exact(T9.cell j).trans hj) oneP (by unfold maxLen;omega) (by omega) hsz3 (fun vP2 w8 oP2 hg=>hK _ _ (fun h hb hc=>⟨(Below.refl _ _).grown hg h (fun j hj=>(oP.lt j hj).1),hg.block b hb (hA.not_row (by decide) oP),hg.block _ hc (hR.not_row (by decide) oP)⟩) ?_)
    replace hG:=hG.row hsz oP (Nat.le_refl _) hg
    replace hA:=hA.grown hg (hA.not_row (by decide) oP)
    replace hR:=hR.grown hg (hR.not_row (by decide) oP)
    replace hL:=hL.grown hg (hL.not_row (by decide) oP)
    replace oA2:=oA2.kept hg (zfX oA2 oP (by decide))
    simp only[Act.put,zs1,zs2,zs3]
    clear hK hq7 hsz3 T9 hg oP
    refine RF.zh (by kernel_rfl) (fun w9 hq9=>?_)
    simp only[List.drop_succ_cons,List.drop_zero]
    replace hG:=hG.q hsz hq9
    replace oA2:=zi oA2 hq9
    replace oP2:=zi oP2 hq9
    replace hR:=hR.keep hq9 hR.lt
    replace hL:=hL.keep hq9 hL.lt
    obtain⟨gA,capA,rfl⟩:=ownsRow_succ oA2
    obtain⟨gP,capP,rfl⟩:=ownsRow_succ oP2
    have bA9:Boxed w9 w.heap.size 311 vA:=(hG.low.block w.heap.size (by omega)).trans bA
    have bP9:Boxed w9 (w.heap.size+1) 312 vP:=(hG.low.block (w.heap.size+1) (by omega)).trans bP
    have hsz9:=Nat.le_trans hsz hG.low.size
    have cA:=bA9.cell
    have fA:=bA9.frozen
    have cP:=zbq bP9 (g:=w.heap.size) (by omega) 0 (.slice (some ⟨gA,0,none⟩) ((sofar R k i).length+1) capA)
    have hC:CrossR w (sofar R k (i+1)) (.slice (some ⟨gA,0,none⟩) ((sofar R k i).length+1) capA) (.slice (some ⟨gP,0,none⟩) ((sofar R k i).length+1) capP) ((w9.setCell ⟨w.heap.size,0,none⟩ (.slice (some ⟨gA,0,none⟩) ((sofar R k i).length+1) capA)).setCell ⟨w.heap.size+1,0,none⟩ (.slice (some ⟨gP,0,none⟩) ((sofar R k i).length+1) capP)) :=
     ⟨zbq (bA9.set (.slice (some ⟨gA,0,none⟩) ((sofar R k i).length+1) capA)) (g:=w.heap.size+1) (by omega) 0 (.slice (some ⟨gP,0,none⟩) ((sofar R k i).length+1) capP),cP.set (.slice (some ⟨gP,0,none⟩) ((sofar R k i).length+1) capP),
      zd6 (zd6 (by rw[HT.out,List.length_append,zjF];exact oA2) (g:=w.heap.size) (by omega) 0 (.slice (some ⟨gA,0,none⟩) ((sofar R k i).length+1) capA)) (g:=w.heap.size+1) (by omega) 0 (.slice (some ⟨gP,0,none⟩) ((sofar R k i).length+1) capP),
      zd6 (zd6 (by rw[HT.out,List.length_append,zjF];exact oP2) (g:=w.heap.size) (by omega) 0 (.slice (some ⟨gA,0,none⟩) ((sofar R k i).length+1) capA)) (g:=w.heap.size+1) (by omega) 0 (.slice (some ⟨gP,0,none⟩) ((sofar R k i).length+1) capP),
      ((Below.trans hQ (hG.low.mono (by omega))).setCell (p:=⟨w.heap.size,0,none⟩) (by simp) (.slice (some ⟨gA,0,none⟩) ((sofar R k i).length+1) capA)).setCell (p:=⟨w.heap.size+1,0,none⟩) (by simp) (.slice (some ⟨gP,0,none⟩) ((sofar R k i).length+1) capP),by simpa using hsz9⟩
    have ko:KeepsOthers V ((w9.setCell ⟨w.heap.size,0,none⟩ (.slice (some ⟨gA,0,none⟩) ((sofar R k i).length+1) capA)).setCell ⟨w.heap.size+1,0,none⟩ (.slice (some ⟨gP,0,none⟩) ((sofar R k i).length+1) capP)):=(hG.oth.trans (KeepsOthers.setCell _ _ _)).trans (KeepsOthers.setCell _ _ _)
    have kf:=ko.from W2.heap.size
    have hM9:=hMV.keep (ko.from _)
    have hR9:=(hR.setOther (b':=w.heap.size) (by omega) 0 (.slice (some ⟨gA,0,none⟩) ((sofar R k i).length+1) capA)).setOther (b':=w.heap.size+1) (by omega) 0 (.slice (some ⟨gP,0,none⟩) ((sofar R k i).length+1) capP)
    have hL9:=(hL.setOther (b':=w.heap.size) (by omega) 0 (.slice (some ⟨gA,0,none⟩) ((sofar R k i).length+1) capA)).setOther (b':=w.heap.size+1) (by omega) 0 (.slice (some ⟨gP,0,none⟩) ((sofar R k i).length+1) capP)
    have kb:zI ((W.heap.size+1)::zbM a) V ((w9.setCell ⟨w.heap.size,0,none⟩ (.slice (some ⟨gA,0,none⟩) ((sofar R k i).length+1) capA)).setCell ⟨w.heap.size+1,0,none⟩ (.slice (some ⟨gP,0,none⟩) ((sofar R k i).length+1) capP)):=fun q hq _=>by
     rw[List.mem_cons]at hq
     rcases hq with rfl | hq
     ·exact hL9.trans hL0.symm
     ·have h1:=hba q hq
      have e1:q≠w.heap.size:=by omega
      have e2:q≠w.heap.size+1:=by omega
      rw[Below.heap_setCell _ _ _ q e2,Below.heap_setCell _ _ _ q e1]
      exact hG.low.block q (by omega)
    have cP2:=cP.cell
    have fP2:=cP.frozen
    clear oA2 oP2 bA9 bP9 hG cP hA bA bP hQ HT
    go_wp2
    try simp only[zbC]
    gi_wp2
    exact⟨kf,kb,_,_,hC,hR9,hL9,hM9⟩
  case done =>
   rintro D V hD⟨vA,vP,hC,hR,hL,hMV⟩ hK
   rw[HSe.out]at hC
   have hDz:D<V.heap.size:=(Array.getElem?_eq_some_iff.1 hK).1
   have hMn:Marks (w.heap.size+2) V.heap.size ({ target:=.collected D,args:=#[] }::ds) V:=⟨D,rfl,by omega,hDz,hK,hMV.mono (by omega)⟩
   have wk:=Go.IntWalk.i64_in ((k:Int)+1) (by omega)
   clear hR hL hMV hK
   go_wp2
   exact⟨⟨k+1,_,_,_,_,_,_,_,_,_,_,by omega,rfl,⟨_,_,hC⟩,hMn⟩,by simp[intOf];omega⟩
 ·obtain rfl:k=R.length:=by omega
  obtain⟨bA,bP,oA,oP,hQ,hsz⟩:=hJ
  have hpos:0<(zbD R R.length).length:=by
   obtain⟨m,hm⟩:∃ m,R.length=m+1:=⟨R.length - 1,by omega⟩
   rw[hm]
   exact zpi R m (HR.out m (by omega)).1
  have hcl:=zj3 R R.length (Nat.le_refl _)
  have hme:=zj2 R R.length
  have HY:Hid (∀ i,i<(zbD R R.length).length→∀ j,j<i→zdd R (zch (zbD R R.length) i) (zch (zbD R R.length) j)=true→zdm R=true):=LH (fun i hi j hj h=>List.any_eq_true.2 ⟨i,List.mem_range.2 hi,List.any_eq_true.2 ⟨j,List.mem_range.2 hj,h⟩⟩)
  have HN:Hid ((∀ i,i<(zbD R R.length).length→∀ j,j<i→zdd R (zch (zbD R R.length) i) (zch (zbD R R.length) j)=false)→zdm R=false):=LH (fun h=>by
   rw[Bool.eq_false_iff]
   intro hc
   obtain⟨i,hi,hc⟩:=List.any_eq_true.1 hc
   obtain⟨j,hj,hc⟩:=List.any_eq_true.1 hc
   rw[h i (List.mem_range.1 hi) j (List.mem_range.1 hj)]at hc
   exact absurd hc (by decide))
  generalize zbD R R.length=T at *
  obtain⟨gA,capA,rfl⟩:=zki oA hpos
  obtain⟨gP,capP,rfl⟩:=zki oP hpos
  have HB:Hid (∀ i,i<T.length→(zch T i).2.1<R.length∧(zch T i).2.2<1000):=LH (fun i hi=>by
   have hm:zch T i∈T:=by unfold zch;rw[List.getD_eq_getElem?_getD,List.getElem?_eq_getElem hi];exact List.getElem_mem hi
   have:=hme _ hm
   have h2:=(HR.out _ this.1).2
   exact⟨this.1,by omega⟩)
  have HA:Hid (∀ W',Q W W'→∀ i,i<T.length→∀ j u,j<4→(bxC (zch T i).1)[j]? = some u→W'.cell? ⟨gA,i*4+j,none⟩=some u):=LH (fun W' hq i hi j u hj hu=>by
   have e:T[i]=zch T i:=by unfold zch;rw[List.getD_eq_getElem?_getD,List.getElem?_eq_getElem hi];rfl
   have h:=oA.cells rfl (i*4+j) u (by rw[zc0 zrJ T i hi j hj,e];exact hu)
   rw[Addr.add_lit,Nat.zero_add]at h
   exact za hq h)
  have HP:Hid (∀ W',Q W W'→∀ i,i<T.length→W'.cell? ⟨gP,i*2,none⟩=some (.int .i64 ((zch T i).2.1:Nat))∧W'.cell? ⟨gP,i*2+1,none⟩=some (.int .i64 ((zch T i).2.2:Nat))):=LH (fun W' hq i hi=>by
   have e:T[i]=zch T i:=by unfold zch;rw[List.getD_eq_getElem?_getD,List.getElem?_eq_getElem hi];rfl
   have h0:=oP.cells rfl (i*2+0) _ (by rw[zc0 zn1 T i hi 0 (by decide),e];rfl)
   have h1:=oP.cells rfl (i*2+1) _ (by rw[zc0 zn1 T i hi 1 (by decide),e];rfl)
   rw[Addr.add_lit,Nat.zero_add]at h0 h1
   exact⟨za hq h0,za hq h1⟩)
  have HCA:Hid (∀ W',Q W W'→W'.cell? ⟨w.heap.size,0,none⟩=some (.slice (some ⟨gA,0,none⟩) T.length capA)):=LH (fun W' hq=>za hq bA.cell)
  have HCP:Hid (∀ W',Q W W'→W'.cell? ⟨w.heap.size+1,0,none⟩=some (.slice (some ⟨gP,0,none⟩) T.length capP)):=LH (fun W' hq=>za hq bP.cell)
  have HRC:Hid (∀ W',Q W W'→∀ i,i<R.length→∃ a2 c2,W'.cell? ⟨b0,o0+i,none⟩=some (.slice a2 (ringAt R i).length c2)):=LH (fun W' hq i hi=>by
   obtain⟨a',cap',he,hcc⟩:=HRI.out W' (Q.trans hQ hq)
   obtain⟨b1,o1,a2,c2,ha,hcell,-,-⟩:=hcc i hi
   injection he with he1 _ _
   rw[ha]at he1
   injection he1 with he1
   injection he1 with he4 he5
   subst he4 he5
   exact⟨a2,c2,hcell⟩)
  have HMk:Hid (∀ W',Q W W'→Marks (w.heap.size+2) W.heap.size ds W'):=LH (fun W' hq=>Marks.below hq (Nat.le_refl _) hM)
  have hTz:(T.length:Int)≤1000:=by omega
  have cA0:=HCA.out W (Q.refl W)
  clear bA bP oA oP hM hme hcl HRI HLn hpos
  go_wp2
  go_loopw [39] (fun i wr=>∃ k:Nat,k≤T.length∧i=.int .i64 k∧Hid (∀ i,i<k→∀ j,j<i→zdd R (zch T i) (zch T j)=false)∧Q W wr) (fun i _=>T.length - (intOf i).toNat)
  case atStart=>exact⟨0,by omega,rfl,LH (fun i hi=>absurd hi (Nat.not_lt_zero _)),Q.refl _⟩
  case round =>
   obtain⟨k,hk,rfl,HF,hQr⟩:=hrel
   by_cases hlt:k<T.length
   ·have hkz:(k:Int)<T.length:=by omega
    have hk0:(0:Int)≤k:=by omega
    have cP:=HCP.out wr hQr
    obtain⟨p0,p1⟩:=HP.out wr hQr k hlt
    obtain⟨hbr,hbs⟩:=HB.out k hlt
    obtain⟨a2,c2,c0⟩:=HRC.out wr hQr _ hbr
    obtain⟨hl1,hl2⟩:=HR.out _ hbr
    have HYk:=LH (HY.out k hlt)
    obtain⟨⟨tb,tr,ts⟩,htk⟩:∃ x,zch T k=x:=⟨_,rfl⟩
    rw[htk]at p0 p1 hbr hbs c0 hl1 hl2 HYk
    simp only at p0 p1 hbr hbs c0 hl1 hl2
    have HTK:=LH htk
    clear htk
    have htr:(tr:Int)<R.length:=by omega
    have htr0:(0:Int)≤tr:=by omega
    have hgl:R.getD tr []=ringAt R tr:=rfl
    obtain⟨nn,hnn⟩:∃ nn,(ringAt R tr).length=nn:=⟨_,rfl⟩
    rw[hnn]at c0 hl1 hl2
    have HNN:=LH hnn
    clear hnn
    have wn1:=Go.IntWalk.i64_in ((nn:Int) - 1) (by omega)
    go_wp2
    go_loopw [43] (fun i wl=>∃ m:Nat,m≤k∧i=.int .i64 m∧Hid (∀ j,j<m→zdd R (tb,tr,ts) (zch T j)=false)∧Q W wl) (fun i _=>k - (intOf i).toNat)
    case atStart=>exact⟨0,by omega,rfl,LH (fun j hj=>absurd hj (Nat.not_lt_zero _)),hQr⟩
    case round =>
     obtain⟨m,hm,rfl,HFm,hQm⟩:=hrel
     by_cases hlm:m<k
     ·have hmz:(m:Int)<k:=by omega
      have hmr:(m:Int)<T.length:=by omega
      have hm0:(0:Int)≤m:=by omega
      have hml:m<T.length:=by omega
      have cP:=HCP.out wr hQm
      have cA:=HCA.out wr hQm
      obtain⟨p0,p1⟩:=HP.out wr hQm k hlt
      obtain⟨s0,s1⟩:=HP.out wr hQm m hml
      rw[HTK.out]at p0 p1
      have hbm:=(HB.out m hml).2
      have a0:=HA.out wr hQm k hlt 0 _ (by decide) rfl
      have a1:=HA.out wr hQm k hlt 1 _ (by decide) rfl
      have a2:=HA.out wr hQm k hlt 2 _ (by decide) rfl
      have a3:=HA.out wr hQm k hlt 3 _ (by decide) rfl
      have q0:=HA.out wr hQm m hml 0 _ (by decide) rfl
      have q1:=HA.out wr hQm m hml 1 _ (by decide) rfl
      have q2:=HA.out wr hQm m hml 2 _ (by decide) rfl
      have q3:=HA.out wr hQm m hml 3 _ (by decide) rfl
      rw[HTK.out]at a0 a1 a2 a3
      rw[Nat.add_zero]at a0 q0
      have HYm:=LH (HYk.out m hlm)
      obtain⟨⟨ub,ur,us⟩,hum⟩:∃ x,zch T m=x:=⟨_,rfl⟩
      rw[hum]at s0 s1 q0 q1 q2 q3 HYm hbm
      simp only at s0 s1 hbm
      have HKm:Hid (zdd R (tb,tr,ts) (ub,ur,us)=false→∀ j,j<m+1→zdd R (tb,tr,ts) (zch T j)=false):=LH (fun h j hj=>by
       rcases Nat.lt_or_ge j m with h1 | h1
       ·exact HFm.out j h1
       ·obtain rfl:j=m:=by omega
        rw[hum];exact h)
      have HM:=LH (fun w=>zoF tb ub w)
      have htc:zdd R (tb,tr,ts) (ub,ur,us)=(!((tr == ur) && (((ts:Int) - us == 1) || ((ts:Int) - us == (nn:Int) - 1))) && zlQ tb ub):=by rw[← HNN.out];rfl
      clear hum
      obtain⟨a9,c9,c0'⟩:=HRC.out wr hQm _ hbr
      rw[HNN.out]at c0'
      obtain⟨mt,hmt⟩:∃ mt,zlQ tb ub=mt:=⟨_,rfl⟩
      rw[hmt]at HM htc
      clear hmt
      obtain⟨lx,ly,hx,hy⟩:=tb
      obtain⟨mx,my,gx,gy⟩:=ub
      simp only[bxC]at HM a0 a1 a2 a3 q0 q1 q2 q3
      have wgp:=Go.IntWalk.i64_in ((ts:Int) - us) (by omega)
      obtain⟨gp,hgp⟩:∃ g,(ts:Int) - us=g:=⟨_,rfl⟩
      rw[hgp]at htc wgp
      clear HFm HF
      go_wp2_with fail
      refine zn 12 rfl (by kernel_rfl) rfl ?_
      refine svq 0 rfl (by intro w' hq;have hc0:=za hq cP;go_simp;try with_reducible rfl) ?_
      refine svp 1 ?_
      refine svp 2 ?_
      refine svp 3 ?_
      refine svq 4 rfl (by intro w' hq;have hc0:=za hq p1;go_simp;try with_reducible rfl) ?_
      refine svq 5 rfl (by intro w' hq;have hc0:=za hq cP;go_simp;try with_reducible rfl) ?_
      refine svp 6 ?_
      refine svp 7 ?_
      refine svp 8 ?_
      refine svq 9 rfl (by intro w' hq;have hc0:=za hq s1;go_simp;try with_reducible rfl) ?_
      refine svp 10 ?_
      refine svp 11 ?_
      refine zh (by kernel_rfl) (fun w3 hq3=>?_)
      simp only[List.drop_succ_cons,List.drop_nil]
      have hqw:Q wr w3:=Q.trans (Below.drew (Q.refl _)) hq3
      replace cP:=za hqw cP
      replace cA:=za hqw cA
      replace p0:=za hqw p0
      replace s0:=za hqw s0
      have hQ3:=Q.trans hQm hqw
      by_cases hru:tr=ur
      ·subst hru
       have her:((tr:Int) == (tr:Int))=true:=by simp
       cases e1:(gp == 1) <;> cases e2:(gp == (nn:Int) - 1)
       case false.false =>
        have ht:zdd R (⟨lx,ly,hx,hy⟩,tr,ts) (⟨mx,my,gx,gy⟩,tr,us)=mt:=by rw[htc,e1,e2];simp
        clear htc
        rw[ht]at HKm HYm
        replace ht:=rfl (a:=mt)
        go_wp2_with fail
        refine zn 22 rfl (by kernel_rfl) rfl ?_
        refine svq 0 rfl (by intro w' hq;have hc0:=za hq cP;go_simp;try with_reducible rfl) ?_
        refine svp 1 ?_
        refine svp 2 ?_
        refine svp 3 ?_
        refine svq 4 rfl (by intro w' hq;have hc0:=za hq p0;go_simp;try with_reducible rfl) ?_
        refine svq 5 rfl (by intro w' hq;have hc0:=za hq cP;go_simp;try with_reducible rfl) ?_
        refine svp 6 ?_
        refine svp 7 ?_
        refine svp 8 ?_
        refine svq 9 rfl (by intro w' hq;have hc0:=za hq s0;go_simp;try with_reducible rfl) ?_
        refine svp 10 ?_
        refine svp 11 ?_
        refine svp 12 ?_
        refine svp 13 ?_
        refine svp 14 ?_
        refine svp 15 ?_
        refine svp 16 ?_
        refine svp 17 ?_
        refine svp 18 ?_
        refine svp 19 ?_
        refine svp 20 ?_
        refine svp 21 ?_
        refine zh (by kernel_rfl) (fun w5 hq5=>?_)
        simp only[List.drop_succ_cons,List.drop_nil]
        have hqv:Q w3 w5:=Q.trans (Below.drew (Q.refl _)) hq5
        have hQ5:=Q.trans hQ3 hqv
        replace cA:=za hqv cA
        replace a0:=za hqv (za hqw a0)
        replace a1:=za hqv (za hqw a1)
        replace a2:=za hqv (za hqw a2)
        replace a3:=za hqv (za hqw a3)
        replace q0:=za hqv (za hqw q0)
        replace q1:=za hqv (za hqw q1)
        replace q2:=za hqv (za hqw q2)
        replace q3:=za hqv (za hqw q3)
        cases mt
        ·skip
         go_wp2_with fail
         refine zn 13 rfl (by kernel_rfl) rfl ?_
         refine svp 0 ?_
         refine svp 1 ?_
         refine svp 2 ?_
         refine svq 3 rfl (by intro w' hq;have hc0:=za hq cA;go_simp;try with_reducible rfl) ?_
         refine svp 4 ?_
         refine svp 5 ?_
         refine svq 6 rfl (by intro w' hq;have hc0:=za hq a0;have hc1:=za hq a1;have hc2:=za hq a2;have hc3:=za hq a3;go_simp;try with_reducible rfl) ?_
         refine svq 7 rfl (by intro w' hq;have hc0:=za hq cA;go_simp;try with_reducible rfl) ?_
         refine svp 8 ?_
         refine svp 9 ?_
         refine svq 10 rfl (by intro w' hq;have hc0:=za hq q0;have hc1:=za hq q1;have hc2:=za hq q2;have hc3:=za hq q3;go_simp;try with_reducible rfl) ?_
         refine zk (i:=11) (v:=_) rfl rfl (by kernel_rfl) (by kernel_rfl) (fun _ _ _ h=>h) (by rfl) ?_ (fun w' hq=>HM.out w') ?_
         ·(intro w' hq;go_simp;try with_reducible rfl)
         simp only[Act.put,zs1,zs2,zs3]
         refine svp 12 ?_
         refine zh (by kernel_rfl) (fun w7 hq7=>?_)
         simp only[List.drop_succ_cons,List.drop_nil]
         have hQ7:=Q.trans hQ5 (Q.trans (Below.drew (Q.refl _)) hq7)
         have HK:=LH (HKm.out ht)
         go_wp2
         go_roundw
         case rel=>exact⟨m+1,by omega,by go_num,HK,hQ7⟩
         case measure=>simp[intOf];omega
        ·skip
         go_wp2_with fail
         refine zn 13 rfl (by kernel_rfl) rfl ?_
         refine svp 0 ?_
         refine svp 1 ?_
         refine svp 2 ?_
         refine svq 3 rfl (by intro w' hq;have hc0:=za hq cA;go_simp;try with_reducible rfl) ?_
         refine svp 4 ?_
         refine svp 5 ?_
         refine svq 6 rfl (by intro w' hq;have hc0:=za hq a0;have hc1:=za hq a1;have hc2:=za hq a2;have hc3:=za hq a3;go_simp;try with_reducible rfl) ?_
         refine svq 7 rfl (by intro w' hq;have hc0:=za hq cA;go_simp;try with_reducible rfl) ?_
         refine svp 8 ?_
         refine svp 9 ?_
         refine svq 10 rfl (by intro w' hq;have hc0:=za hq q0;have hc1:=za hq q1;have hc2:=za hq q2;have hc3:=za hq q3;go_simp;try with_reducible rfl) ?_
         refine zk (i:=11) (v:=_) rfl rfl (by kernel_rfl) (by kernel_rfl) (fun _ _ _ h=>h) (by rfl) ?_ (fun w' hq=>HM.out w') ?_
         ·(intro w' hq;go_simp;try with_reducible rfl)
         simp only[Act.put,zs1,zs2,zs3]
         refine svp 12 ?_
         refine zh (by kernel_rfl) (fun w7 hq7=>?_)
         simp only[List.drop_succ_cons,List.drop_nil]
         have hQ7:=Q.trans hQ5 (Q.trans (Below.drew (Q.refl _)) hq7)
         have hy:=HYm.out ht
         have hMe:=HMk.out _ hQ7
         go_wp2
         exact zb0 ds _ _ hMe (fun V' kc hb'=>⟨_,results_tmp rfl _ _ _,by rw[hy];rfl,Below.trans (Q.trans hQ hQ7) (hb'.mono (by omega))⟩)
       case false.true =>
        have ht:zdd R (⟨lx,ly,hx,hy⟩,tr,ts) (⟨mx,my,gx,gy⟩,tr,us)=false:=by rw[htc,e1,e2];simp
        clear htc
        go_wp2_with fail
        refine zn 22 rfl (by kernel_rfl) rfl ?_
        refine svq 0 rfl (by intro w' hq;have hc0:=za hq cP;go_simp;try with_reducible rfl) ?_
        refine svp 1 ?_
        refine svp 2 ?_
        refine svp 3 ?_
        refine svq 4 rfl (by intro w' hq;have hc0:=za hq p0;go_simp;try with_reducible rfl) ?_
        refine svq 5 rfl (by intro w' hq;have hc0:=za hq cP;go_simp;try with_reducible rfl) ?_
        refine svp 6 ?_
        refine svp 7 ?_
        refine svp 8 ?_
        refine svq 9 rfl (by intro w' hq;have hc0:=za hq s0;go_simp;try with_reducible rfl) ?_
        refine svp 10 ?_
        refine svp 11 ?_
        refine svp 12 ?_
        refine svp 13 ?_
        refine svp 14 ?_
        refine svp 15 ?_
        refine svp 16 ?_
        refine svp 17 ?_
        refine svp 18 ?_
        refine svp 19 ?_
        refine svp 20 ?_
        refine svp 21 ?_
        refine zh (by kernel_rfl) (fun w5 hq5=>?_)
        simp only[List.drop_succ_cons,List.drop_nil]
        have hqv:Q w3 w5:=Q.trans (Below.drew (Q.refl _)) hq5
        have hQ5:=Q.trans hQ3 hqv
        go_wp2_with fail
        refine zn 13 rfl (by kernel_rfl) rfl ?_
        refine svp 0 ?_
        refine svp 1 ?_
        refine svp 2 ?_
        refine svi 3 ?_
        refine svi 4 ?_
        refine svi 5 ?_
        refine svi 6 ?_
        refine svi 7 ?_
        refine svi 8 ?_
        refine svi 9 ?_
        refine svi 10 ?_
        refine svi 11 ?_
        refine svp 12 ?_
        refine zh (by kernel_rfl) (fun w7 hq7=>?_)
        simp only[List.drop_succ_cons,List.drop_nil]
        have hQ7:=Q.trans hQ5 (Q.trans (Below.drew (Q.refl _)) hq7)
        have HK:=LH (HKm.out ht)
        go_wp2
        go_roundw
        case rel=>exact⟨m+1,by omega,by go_num,HK,hQ7⟩
        case measure=>simp[intOf];omega
       case true.false =>
        have ht:zdd R (⟨lx,ly,hx,hy⟩,tr,ts) (⟨mx,my,gx,gy⟩,tr,us)=false:=by rw[htc,e1,e2];simp
        clear htc
        go_wp2_with fail
        refine zn 22 rfl (by kernel_rfl) rfl ?_
        refine svq 0 rfl (by intro w' hq;have hc0:=za hq cP;go_simp;try with_reducible rfl) ?_
        refine svp 1 ?_
        refine svp 2 ?_
        refine svp 3 ?_
        refine svq 4 rfl (by intro w' hq;have hc0:=za hq p0;go_simp;try with_reducible rfl) ?_
        refine svq 5 rfl (by intro w' hq;have hc0:=za hq cP;go_simp;try with_reducible rfl) ?_
        refine svp 6 ?_
        refine svp 7 ?_
        refine svp 8 ?_
        refine svq 9 rfl (by intro w' hq;have hc0:=za hq s0;go_simp;try with_reducible rfl) ?_
        refine svp 10 ?_
        refine svp 11 ?_
        refine svp 12 ?_
        refine svp 13 ?_
        refine svp 14 ?_
        refine svi 15 ?_
        refine svi 16 ?_
        refine svi 17 ?_
        refine svi 18 ?_
        refine svp 19 ?_
        refine svp 20 ?_
        refine svp 21 ?_
        refine zh (by kernel_rfl) (fun w5 hq5=>?_)
        simp only[List.drop_succ_cons,List.drop_nil]
        have hqv:Q w3 w5:=Q.trans (Below.drew (Q.refl _)) hq5
        have hQ5:=Q.trans hQ3 hqv
        go_wp2_with fail
        refine zn 13 rfl (by kernel_rfl) rfl ?_
        refine svp 0 ?_
        refine svp 1 ?_
        refine svp 2 ?_
        refine svi 3 ?_
        refine svi 4 ?_
        refine svi 5 ?_
        refine svi 6 ?_
        refine svi 7 ?_
        refine svi 8 ?_
        refine svi 9 ?_
        refine svi 10 ?_
        refine svi 11 ?_
        refine svp 12 ?_
        refine zh (by kernel_rfl) (fun w7 hq7=>?_)
        simp only[List.drop_succ_cons,List.drop_nil]
        have hQ7:=Q.trans hQ5 (Q.trans (Below.drew (Q.refl _)) hq7)
        have HK:=LH (HKm.out ht)
        go_wp2
        go_roundw
        case rel=>exact⟨m+1,by omega,by go_num,HK,hQ7⟩
        case measure=>simp[intOf];omega
       case true.true =>
        have ht:zdd R (⟨lx,ly,hx,hy⟩,tr,ts) (⟨mx,my,gx,gy⟩,tr,us)=false:=by rw[htc,e1,e2];simp
        clear htc
        go_wp2_with fail
        refine zn 22 rfl (by kernel_rfl) rfl ?_
        refine svq 0 rfl (by intro w' hq;have hc0:=za hq cP;go_simp;try with_reducible rfl) ?_
        refine svp 1 ?_
        refine svp 2 ?_
        refine svp 3 ?_
        refine svq 4 rfl (by intro w' hq;have hc0:=za hq p0;go_simp;try with_reducible rfl) ?_
        refine svq 5 rfl (by intro w' hq;have hc0:=za hq cP;go_simp;try with_reducible rfl) ?_
        refine svp 6 ?_
        refine svp 7 ?_
        refine svp 8 ?_
        refine svq 9 rfl (by intro w' hq;have hc0:=za hq s0;go_simp;try with_reducible rfl) ?_
        refine svp 10 ?_
        refine svp 11 ?_
        refine svp 12 ?_
        refine svp 13 ?_
        refine svp 14 ?_
        refine svi 15 ?_
        refine svi 16 ?_
        refine svi 17 ?_
        refine svi 18 ?_
        refine svp 19 ?_
        refine svp 20 ?_
        refine svp 21 ?_
        refine zh (by kernel_rfl) (fun w5 hq5=>?_)
        simp only[List.drop_succ_cons,List.drop_nil]
        have hqv:Q w3 w5:=Q.trans (Below.drew (Q.refl _)) hq5
        have hQ5:=Q.trans hQ3 hqv
        go_wp2_with fail
        refine zn 13 rfl (by kernel_rfl) rfl ?_
        refine svp 0 ?_
        refine svp 1 ?_
        refine svp 2 ?_
        refine svi 3 ?_
        refine svi 4 ?_
        refine svi 5 ?_
        refine svi 6 ?_
        refine svi 7 ?_
        refine svi 8 ?_
        refine svi 9 ?_
        refine svi 10 ?_
        refine svi 11 ?_
        refine svp 12 ?_
        refine zh (by kernel_rfl) (fun w7 hq7=>?_)
        simp only[List.drop_succ_cons,List.drop_nil]
        have hQ7:=Q.trans hQ5 (Q.trans (Below.drew (Q.refl _)) hq7)
        have HK:=LH (HKm.out ht)
        go_wp2
        go_roundw
        case rel=>exact⟨m+1,by omega,by go_num,HK,hQ7⟩
        case measure=>simp[intOf];omega
      ·have her:((tr:Int) == (ur:Int))=false:=by rw[beq_eq_false_iff_ne];omega
       have ht:zdd R (⟨lx,ly,hx,hy⟩,tr,ts) (⟨mx,my,gx,gy⟩,ur,us)=mt:=by rw[htc,show (tr == ur)=false by simpa using hru];simp
       clear htc
       rw[ht]at HKm HYm
       replace ht:=rfl (a:=mt)
       go_wp2_with fail
       refine zn 22 rfl (by kernel_rfl) rfl ?_
       refine svq 0 rfl (by intro w' hq;have hc0:=za hq cP;go_simp;try with_reducible rfl) ?_
       refine svp 1 ?_
       refine svp 2 ?_
       refine svp 3 ?_
       refine svq 4 rfl (by intro w' hq;have hc0:=za hq p0;go_simp;try with_reducible rfl) ?_
       refine svq 5 rfl (by intro w' hq;have hc0:=za hq cP;go_simp;try with_reducible rfl) ?_
       refine svp 6 ?_
       refine svp 7 ?_
       refine svp 8 ?_
       refine svq 9 rfl (by intro w' hq;have hc0:=za hq s0;go_simp;try with_reducible rfl) ?_
       refine svp 10 ?_
       refine svp 11 ?_
       refine svi 12 ?_
       refine svi 13 ?_
       refine svi 14 ?_
       refine svi 15 ?_
       refine svi 16 ?_
       refine svi 17 ?_
       refine svi 18 ?_
       refine svi 19 ?_
       refine svp 20 ?_
       refine svp 21 ?_
       refine zh (by kernel_rfl) (fun w5 hq5=>?_)
       simp only[List.drop_succ_cons,List.drop_nil]
       have hqv:Q w3 w5:=Q.trans (Below.drew (Q.refl _)) hq5
       have hQ5:=Q.trans hQ3 hqv
       replace cA:=za hqv cA
       replace a0:=za hqv (za hqw a0)
       replace a1:=za hqv (za hqw a1)
       replace a2:=za hqv (za hqw a2)
       replace a3:=za hqv (za hqw a3)
       replace q0:=za hqv (za hqw q0)
       replace q1:=za hqv (za hqw q1)
       replace q2:=za hqv (za hqw q2)
       replace q3:=za hqv (za hqw q3)
       cases mt
       ·skip
        go_wp2_with fail
        refine zn 13 rfl (by kernel_rfl) rfl ?_
        refine svp 0 ?_
        refine svp 1 ?_
        refine svp 2 ?_
        refine svq 3 rfl (by intro w' hq;have hc0:=za hq cA;go_simp;try with_reducible rfl) ?_
        refine svp 4 ?_
        refine svp 5 ?_
        refine svq 6 rfl (by intro w' hq;have hc0:=za hq a0;have hc1:=za hq a1;have hc2:=za hq a2;have hc3:=za hq a3;go_simp;try with_reducible rfl) ?_
        refine svq 7 rfl (by intro w' hq;have hc0:=za hq cA;go_simp;try with_reducible rfl) ?_
        refine svp 8 ?_
        refine svp 9 ?_
        refine svq 10 rfl (by intro w' hq;have hc0:=za hq q0;have hc1:=za hq q1;have hc2:=za hq q2;have hc3:=za hq q3;go_simp;try with_reducible rfl) ?_
        refine zk (i:=11) (v:=_) rfl rfl (by kernel_rfl) (by kernel_rfl) (fun _ _ _ h=>h) (by rfl) ?_ (fun w' hq=>HM.out w') ?_
        ·(intro w' hq;go_simp;try with_reducible rfl)
        simp only[Act.put,zs1,zs2,zs3]
        refine svp 12 ?_
        refine zh (by kernel_rfl) (fun w7 hq7=>?_)
        simp only[List.drop_succ_cons,List.drop_nil]
        have hQ7:=Q.trans hQ5 (Q.trans (Below.drew (Q.refl _)) hq7)
        have HK:=LH (HKm.out ht)
        go_wp2
        go_roundw
        case rel=>exact⟨m+1,by omega,by go_num,HK,hQ7⟩
        case measure=>simp[intOf];omega
       ·skip
        go_wp2_with fail
        refine zn 13 rfl (by kernel_rfl) rfl ?_
        refine svp 0 ?_
        refine svp 1 ?_
        refine svp 2 ?_
        refine svq 3 rfl (by intro w' hq;have hc0:=za hq cA;go_simp;try with_reducible rfl) ?_
        refine svp 4 ?_
        refine svp 5 ?_
        refine svq 6 rfl (by intro w' hq;have hc0:=za hq a0;have hc1:=za hq a1;have hc2:=za hq a2;have hc3:=za hq a3;go_simp;try with_reducible rfl) ?_
        refine svq 7 rfl (by intro w' hq;have hc0:=za hq cA;go_simp;try with_reducible rfl) ?_
        refine svp 8 ?_
        refine svp 9 ?_
        refine svq 10 rfl (by intro w' hq;have hc0:=za hq q0;have hc1:=za hq q1;have hc2:=za hq q2;have hc3:=za hq q3;go_simp;try with_reducible rfl) ?_
        refine zk (i:=11) (v:=_) rfl rfl (by kernel_rfl) (by kernel_rfl) (fun _ _ _ h=>h) (by rfl) ?_ (fun w' hq=>HM.out w') ?_
        ·(intro w' hq;go_simp;try with_reducible rfl)
        simp only[Act.put,zs1,zs2,zs3]
        refine svp 12 ?_
        refine zh (by kernel_rfl) (fun w7 hq7=>?_)
        simp only[List.drop_succ_cons,List.drop_nil]
        have hQ7:=Q.trans hQ5 (Q.trans (Below.drew (Q.refl _)) hq7)
        have hy:=HYm.out ht
        have hMe:=HMk.out _ hQ7
        go_wp2
        exact zb0 ds _ _ hMe (fun V' kc hb'=>⟨_,results_tmp rfl _ _ _,by rw[hy];rfl,Below.trans (Q.trans hQ hQ7) (hb'.mono (by omega))⟩)
     ·obtain rfl:m=k:=by omega
      have HFk:Hid (∀ i,i<m+1→∀ j,j<i→zdd R (zch T i) (zch T j)=false):=LH (fun i hi j hj=>by
       rcases Nat.lt_or_ge i m with h1 | h1
       ·exact HF.out i h1 j hj
       ·obtain rfl:i=m:=by omega
        rw[HTK.out];exact HFm.out j hj)
      go_wp2
      go_roundw
      case rel=>exact⟨m+1,by omega,by go_num,HFk,hQm⟩
      case measure=>simp[intOf];omega
   ·obtain rfl:k=T.length:=by omega
    have hcf:=HN.out HF.out
    have hMe:=HMk.out wr hQr
    go_wp2
    exact zb0 ds _ _ hMe (fun V' kc hb'=>⟨_,results_tmp rfl _ _ _,by rw[hcf];rfl,Below.trans (Q.trans hQ hQr) (hb'.mono (by omega))⟩)
end Go.Proofs.YtapnkgdnflofbaaGreatDoor
