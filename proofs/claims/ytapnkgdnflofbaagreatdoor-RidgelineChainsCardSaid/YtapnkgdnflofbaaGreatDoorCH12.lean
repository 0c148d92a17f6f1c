/-
  Walks of package ridgeline: Check at a right line.; VE VF VG VH, one behind the other.; Regions that draw their order, of an iterator: the first operations in whatever order, then what is left, the loop's body among it, one by one.; Rows of any elements in memory.
-/
import Derived.Test.YtapnkgdnflofbaaGreatDoorCH11
import Derived.Test.YtapnkgdnflofbaaGreatDoorCHBI1
set_option maxRecDepth 100000
set_option maxHeartbeats 8000000
namespace Go.Proofs.YtapnkgdnflofbaaGreatDoor
section
open Go.RowKit Go.Shelf Kp
attribute [local go_sem] Oper.semAt_some
theorem zmE(l:List Rat)(hl:∀ q∈l,Bd 36 q)(hn:l.length≤100)(v:Value)(w:World)(hE:Env w)(hv:zb2 w v (l.map ze)) :
  CR 156 #[v,.func (.func 86) #[] #[]] w (.int .i64 (-1)):=by
 obtain⟨b,o,cap,rfl,hb,hc⟩:=hv
 rw[List.length_map]at hc
 rw[List.length_map]
 have HL:=LH hl
 clear hl
 go_enter Tryz.func156,Tryz.ntmps156
 go_wp2
 go_loopw [8] (fun i wr=>∃ k:Nat,k≤l.length∧i=.int .i64 k∧Q w wr) (fun i _=>l.length - (intOf i).toNat)
 case atStart=>exact⟨0,by omega,rfl,Below.refl _ _⟩
 case round =>
  obtain⟨k,hk,rfl,hQ⟩:=hrel
  by_cases hlt:k<l.length
  ·have hcell:=hc k hlt
   have hcell':wr.cell? ⟨b,o+k,none⟩=some (.string ⟨((l.map ze).getD k []).toArray⟩):=by rw[hQ.cell (p:=⟨b,o+k,none⟩) hb];exact hcell
   have hq:(l.map ze).getD k []=ze l[k]:=by rw[List.getD_eq_getElem?_getD,List.getElem?_map,List.getElem?_eq_getElem hlt];rfl
   rw[hq]at hcell'
   have HG:=LH (fun w hw=>zou l[k] (HL.out _ (List.getElem_mem hlt)) w hw)
   clear hcell hc hq HL
   generalize ze l[k]=S at *
   go_wp2_with fail
   refine cx (HG.out _ (hE.q hQ)) fun w2 hq2=>?_
   have hQ2:Q w w2:=Q.trans hQ hq2
   go_wp2
   go_roundw
   case rel=>exact⟨k+1,by omega,by go_num,hQ2⟩
   case measure=>simp[intOf];omega
  ·obtain rfl:k=l.length:=by omega
   go_wp2
   go_ret
   exact⟨rfl,hQ⟩
theorem zji(l:List Rat)(hl:∀ q∈l,Bd 36 q)(hn:l.length≤100)(v:Value)(w:World)(hE:Env w)(hv:zb2 w v (l.map ze)) :
  CR 85 #[v,.func (.func 86) #[] #[]] w (.bool false):=by
 have HI:=LH (zmE l hl hn v w hE hv)
 clear hl hv
 go_enter Tryz.func85,Tryz.ntmps85
 go_wp2_with fail
 refine HI.out.mono ?_
 rintro e w1⟨rfl,hq1⟩
 go_wp2
 go_ret
 exact⟨rfl,hq1⟩
structure Lv where
 k:Int
 f:P3
 t:P3
 l:Int
 r:Int
def Lv.c(x:Lv):List Value:=[.int .i64 x.k,.string ⟨(ze x.f.x).toArray⟩,.string ⟨(ze x.f.y).toArray⟩,.string ⟨(ze x.f.z).toArray⟩,.string ⟨(ze x.t.x).toArray⟩,.string ⟨(ze x.t.y).toArray⟩,.string ⟨(ze x.t.z).toArray⟩,.int .i64 x.l,.int .i64 x.r]
def zlc(k:Int):Bool:=decide (k=1∨k=2∨k=3∨k=6)
structure LvOk (x:Lv):Prop where
 k1:1≤x.k
 k2:x.k≤8
 f:B3 12 x.f
 t:B3 12 x.t
 ne:¬ (x.f.x=x.t.x∧x.f.y=x.t.y)
 l1:-1≤x.l
 l2:x.l<24
 r1:-1≤x.r
 r2:x.r<24
 two:zlc x.k=true→0≤x.l∧0≤x.r∧x.l≠x.r
 one:zlc x.k=false→(x.l<0∧¬ x.r<0)∨(¬ x.l<0∧x.r<0)
 lev:zoY x.k=true→x.f.z=x.t.z∧(x.f.x<x.t.x∨(x.f.x=x.t.x∧x.f.y<x.t.y))
 up:zoY x.k=false→x.f.z<x.t.z
def za9(w:World):Prop:=0<w.heap.size∧∃ bm,bm<w.heap.size∧w.cell? ⟨0,0,none⟩=some (.map (some bm)) ∧
 ∃ o,w.heap[bm]? = some o∧∀ W:World,W.heap[bm]? = some o→∀ k:Int,1≤k→k≤8→(Instr.lookup 144 (.map (some bm)) (.int .i64 k) false).run Tryz.prog W=.ok (.func (.func (if zlc k=true then 65 else 368)) #[] #[]) W
theorem za9.q{w w':World}(h:za9 w)(hq:Q w w'):za9 w':=by
 obtain⟨hg,bm,hb,hc,o,ho,hl⟩:=h
 exact⟨Nat.lt_of_lt_of_le hg hq.size,bm,Nat.lt_of_lt_of_le hb hq.size,by rw[hq.cell (p:=⟨0,0,none⟩) hg];exact hc,o,by rw[hq.block bm hb];exact ho,hl⟩
theorem ztZ(A B A' B':Str)(w:World):(Op.equalIn 10000 116 (.agg #[.string ⟨A.toArray⟩,.string ⟨B.toArray⟩]) (.agg #[.string ⟨A'.toArray⟩,.string ⟨B'.toArray⟩])).run Tryz.prog w=.ok (decide (A=A'∧B=B')) w:=by
 have u3:=Tryz.underlying30
 have a3:=Tryz.isAgg30
 have z3:=Tryz.sizeOf30
 rw[show (10000:Nat)=9999+1 from rfl,Op.equalIn]
 simp only[Sem.run_bind,run_underlying Tryz.underlying116,Result.andThen_ok]
 go_simp
 by_cases h1:A=A' <;> by_cases h2:B=B' <;> simp[h1,h2]
theorem zb2.row{w:World}{b:Nat}{l:List Str}{t:TypeId}(h:Blk w b (l.map fun s=>(.string ⟨s.toArray⟩:Value)) t)(cap:Nat):zb2 w (.slice (some ⟨b,0,none⟩) l.length cap) l:=by
 refine⟨b,0,cap,rfl,h.lt,fun i hi=>?_⟩
 rw[Nat.zero_add,h.cell,List.getElem?_map,List.getElem?_eq_getElem hi,List.getD_eq_getElem?_getD,List.getElem?_eq_getElem hi]
 rfl
theorem zb2.six(w:World)(a b c d e f:Rat)(t:TypeId):zb2 (w.alloc (.cells #[.string ⟨(ze a).toArray⟩,.string ⟨(ze b).toArray⟩,.string ⟨(ze c).toArray⟩,.string ⟨(ze d).toArray⟩,.string ⟨(ze e).toArray⟩,.string ⟨(ze f).toArray⟩] t)) (.slice (some ⟨w.heap.size,0,none⟩) 6 6) ([a,b,c,d,e,f].map ze) :=
 zb2.row (l:=[a,b,c,d,e,f].map ze) (t:=t) (Blk.new w _ _) 6
theorem zdZ(x:Lv)(ok:LvOk x)(w:World)(hE:Env w)(hS:za9 w) :
  CR 45 #[.agg x.c.toArray] w (.int .i64 0):=by
 have HVf:=LH (fun w hw=>zcx x.f ok.f (by decide) w hw)
 have HVt:=LH (fun w hw=>zcx x.t ok.t (by decide) w hw)
 have HB:=LH (fun w hw=>zh0 x.f x.t ok.f ok.t (by decide) (by decide) w hw)
 have HCO:=LH (fun v w hw hv=>zji [x.f.x,x.f.y,x.f.z,x.t.x,x.t.y,x.t.z] (fun q hq=>by
  simp only[List.mem_cons,List.not_mem_nil,or_false]at hq
  rcases hq with rfl | rfl | rfl | rfl | rfl | rfl
  ·exact ok.f.1.mono (by decide)
  ·exact ok.f.2.1.mono (by decide)
  ·exact ok.f.2.2.mono (by decide)
  ·exact ok.t.1.mono (by decide)
  ·exact ok.t.2.1.mono (by decide)
  ·exact ok.t.2.2.mono (by decide)) (by simp) v w hw hv)
 have HSS:=LH (fun w=>zb2.six w x.f.x x.f.y x.f.z x.t.x x.t.y x.t.z 30)
 have HCX:=LH (zrS ok.f.1 ok.t.1 (by decide))
 have HCY:=LH (zrS ok.f.2.1 ok.t.2.1 (by decide))
 have HCZ:=zrS ok.f.2.2 ok.t.2.2 (by decide)
 have HPf:=LH (fun w=>zdY (ze x.f.x) (ze x.f.y) (ze x.f.z) w)
 have HPt:=LH (fun w=>zdY (ze x.t.x) (ze x.t.y) (ze x.t.z) w)
 have hep:∀ w,(Op.equalIn 10000 116 (.agg #[.string ⟨(ze x.f.x).toArray⟩,.string ⟨(ze x.f.y).toArray⟩]) (.agg #[.string ⟨(ze x.t.x).toArray⟩,.string ⟨(ze x.t.y).toArray⟩])).run Tryz.prog w=.ok false w:=fun w=>by
  rw[ztZ,decide_eq_false]
  rintro⟨e1,e2⟩
  exact ok.ne ⟨zbt e1,zbt e2⟩
 have HLV:=LH (fun w=>zmD x.k w)
 have HTW:Hid (zlc x.k=true→∀ w,Calls Tryz.prog 65 #[.int .i64 x.l,.int .i64 x.r] w fun e w'=>e=.returned (.bool true)∧w=w'):=LH (fun h w=>zil x.l x.r (ok.two h) w)
 have HON:Hid (zlc x.k=false→∀ w,Calls Tryz.prog 368 #[.int .i64 x.l,.int .i64 x.r] w fun e w'=>e=.returned (.bool true)∧w=w'):=LH (fun h w=>zpS x.l x.r (ok.one h) w)
 have HLX:Hid (zoY x.k=true→ze x.f.z=ze x.t.z∧∀ w,Env w→CR 88 #[V3 x.f,V3 x.t] w (.tuple #[.int .i64 (-1),.int .i64 0])):=LH (fun h=>by
  obtain⟨h1,h2⟩:=ok.lev h
  refine⟨by rw[h1],fun w hw=>zfn _ _ _ _ _ _ _ _ HCX HCY ?_ HB w hw⟩
  rcases h2 with h2 | ⟨h2,h3⟩
  ·exact .inl (by rw[if_pos h2])
  ·exact .inr ⟨by rw[h2,if_neg (Rat.lt_irrefl),if_pos rfl],by rw[if_pos h3]⟩)
 have HUP:Hid (zoY x.k=false→zqZ (ze x.f.z) (ze x.t.z) (-1)):=LH (fun h=>by
  rw[if_pos (ok.up h)]at HCZ
  exact HCZ)
 have m1:=fun w=>zlp x.l x.r w
 have m2:=fun w=>zie x.l x.r w
 have b1:decide (min x.l x.r < -1)=false:=decide_eq_false (by have:=ok.l1;have:=ok.r1;omega)
 have b2:decide (24≤max x.l x.r)=false:=decide_eq_false (by have:=ok.l2;have:=ok.r2;omega)
 have hk1:=ok.k1
 have hk2:=ok.k2
 clear ok HCX HCY HCZ HB
 generalize min x.l x.r=mi at *
 generalize max x.l x.r=ma at *
 obtain⟨k,f,t,l,r⟩:=x
 unfold Lv.c
 unfold V3 at *
 simp only at *
 rw[show ([f.x,f.y,f.z,t.x,t.y,t.z].map ze)=[ze f.x,ze f.y,ze f.z,ze t.x,ze t.y,ze t.z]from rfl]at HSS HCO
 generalize ze f.x=X at *
 generalize ze f.y=Y at *
 generalize ze f.z=Z at *
 generalize ze t.x=X' at *
 generalize ze t.y=Y' at *
 generalize ze t.z=Z' at *
 obtain⟨W0,hW0⟩:∃ W0,w.alloc (.cells #[.int .i64 k,.string ⟨X.toArray⟩,.string ⟨Y.toArray⟩,.string ⟨Z.toArray⟩,.string ⟨X'.toArray⟩,.string ⟨Y'.toArray⟩,.string ⟨Z'.toArray⟩,.int .i64 l,.int .i64 r] 34)=W0:=⟨_,rfl⟩
 have hq0:Q w W0:=by rw[← hW0];exact bt
 have BL:Blk W0 w.heap.size [.int .i64 k,.string ⟨X.toArray⟩,.string ⟨Y.toArray⟩,.string ⟨Z.toArray⟩,.string ⟨X'.toArray⟩,.string ⟨Y'.toArray⟩,.string ⟨Z'.toArray⟩,.int .i64 l,.int .i64 r] 34:=by rw[← hW0];exact Blk.new w _ _
 obtain⟨-,bm,-,hca,ob,hob,hlk⟩:=hS.q hq0
 have hlk':=hlk _ hob k hk1 hk2
 clear hlk hob hS
 have hne2:∀ w,(binOp BinOp.eql 118 (Value.func (Fn.func (if zlc k=true then 65 else 368)) #[] #[]) Value.nilFunc).run Tryz.prog w=.ok (.bool false) w:=fun w=>by split <;> kernel_rfl
 cases htw:zlc k
 all_goals
  rw[htw]at hlk' hne2 HTW HON
  simp only[if_true,if_false,Bool.false_eq_true]at hlk' hne2
  have hQ0:=Q.refl W0
  replace n0:=BL.cell 0
  replace n1:=BL.cell 1
  replace n2:=BL.cell 2
  replace n3:=BL.cell 3
  replace n4:=BL.cell 4
  replace n5:=BL.cell 5
  replace n6:=BL.cell 6
  replace n7:=BL.cell 7
  replace n8:=BL.cell 8
  simp only[zs4,zs5]at n0 n1 n2 n3 n4 n5 n6 n7 n8
  replace lBL:=BL.lt
  go_enter Tryz.func45,Tryz.ntmps45
  go_wp2
  refine wp_loop_rounds 3 ?_
  rw[rounds_succ]
  have BA:=Blk.new W0 [.string ⟨X.toArray⟩,.string ⟨Y.toArray⟩,.string ⟨Z.toArray⟩,.string ⟨X'.toArray⟩,.string ⟨Y'.toArray⟩,.string ⟨Z'.toArray⟩] 32
  have hqa:Q W0 (W0.alloc (.cells ([.string ⟨X.toArray⟩,.string ⟨Y.toArray⟩,.string ⟨Z.toArray⟩,.string ⟨X'.toArray⟩,.string ⟨Y'.toArray⟩,.string ⟨Z'.toArray⟩]:List Value).toArray 32)):=bt
  go_wp2_with fail
  refine cx (HVf.out _ (hE.ofQ (Q.trans hq0 (Q.trans hqa bt)))) fun G1 hg1=>?_
  have hga:=Q.trans (show Q (W0.alloc (.cells ([.string ⟨X.toArray⟩,.string ⟨Y.toArray⟩,.string ⟨Z.toArray⟩,.string ⟨X'.toArray⟩,.string ⟨Y'.toArray⟩,.string ⟨Z'.toArray⟩]:List Value).toArray 32)) _ from bt) hg1
  replace BA:=BA.keep hga BA.lt
  have hQ1:=Q.trans hqa hga
  replace BL:=BL.keep hQ1 BL.lt
  clear hW0 hga hg1 hqa HVf hca hlk' hne2 n0 n1 n2 n3 n4 n5 n6 n7 n8 lBL hQ0
  replace a0:=BA.cell
  replace lBA:=BA.lt
  replace n0:=BL.cell 0
  replace n1:=BL.cell 1
  replace n2:=BL.cell 2
  replace n3:=BL.cell 3
  replace n4:=BL.cell 4
  replace n5:=BL.cell 5
  replace n6:=BL.cell 6
  replace n7:=BL.cell 7
  replace n8:=BL.cell 8
  simp only[zs4,zs5]at n0 n1 n2 n3 n4 n5 n6 n7 n8
  replace lBL:=BL.lt
  go_wp2
  rw[rounds_succ]
  go_wp2_with fail
  refine cx (HVt.out _ (hE.ofQ (Q.trans hq0 (Q.trans hQ1 bt)))) fun G2 hg2=>?_
  have hQ2:=Q.trans hQ1 (Q.trans (show Q G1 _ from bt) hg2)
  replace BL:=BL.keep (Q.trans (show Q G1 _ from bt) hg2) BL.lt
  clear hg2 hQ1 HVt BA a0 lBA n0 n1 n2 n3 n4 n5 n6 n7 n8 lBL
  replace n0:=BL.cell 0
  replace n1:=BL.cell 1
  replace n2:=BL.cell 2
  replace n3:=BL.cell 3
  replace n4:=BL.cell 4
  replace n5:=BL.cell 5
  replace n6:=BL.cell 6
  replace n7:=BL.cell 7
  replace n8:=BL.cell 8
  simp only[zs4,zs5]at n0 n1 n2 n3 n4 n5 n6 n7 n8
  replace lBL:=BL.lt
  go_wp2
  rw[rounds_succ]
  go_wp2_with fail
  refine cx (HCO.out _ _ (hE.ofQ (Q.trans hq0 (Q.trans hQ2 bt))) (HSS.out G2)) fun G3 hg3=>?_
  have hQ3:=Q.trans hQ2 (Q.trans (show Q G2 _ from bt) hg3)
  replace BL:=BL.keep (Q.trans (show Q G2 _ from bt) hg3) BL.lt
  clear hg3 hQ2 HCO HSS n0 n1 n2 n3 n4 n5 n6 n7 n8 lBL
  have hQ0:=Q.refl G3
  replace n0:=BL.cell 0
  replace n1:=BL.cell 1
  replace n2:=BL.cell 2
  replace n3:=BL.cell 3
  replace n4:=BL.cell 4
  replace n5:=BL.cell 5
  replace n6:=BL.cell 6
  replace n7:=BL.cell 7
  replace n8:=BL.cell 8
  simp only[zs4,zs5]at n0 n1 n2 n3 n4 n5 n6 n7 n8
  replace lBL:=BL.lt
  go_wp2_with fail
  refine zn 6 rfl (by kernel_rfl) rfl ?_
  refine svp 0 ?_
  refine svq 1 rfl (by intro w' hq;have hc0:=za hq n1;have hc1:=za hq n2;have hc2:=za hq n3;go_simp;try with_reducible rfl) ?_
  refine zk (i:=2) (v:=_) rfl rfl (by kernel_rfl) (by kernel_rfl) (fun _ _ _ h=>h) (by rfl) ?_ (fun w' hq=>HPf.out w') ?_
  ·(intro w' hq;go_simp;try with_reducible rfl)
  simp only[Act.put,zs1,zs2,zs3]
  refine svp 3 ?_
  refine svq 4 rfl (by intro w' hq;have hc0:=za hq n4;have hc1:=za hq n5;have hc2:=za hq n6;go_simp;try with_reducible rfl) ?_
  refine zk (i:=5) (v:=_) rfl rfl (by kernel_rfl) (by kernel_rfl) (fun _ _ _ h=>h) (by rfl) ?_ (fun w' hq=>HPt.out w') ?_
  ·(intro w' hq;go_simp;try with_reducible rfl)
  simp only[Act.put,zs1,zs2,zs3]
  refine zh (by kernel_rfl) (fun G4 hg4=>?_)
  simp only[List.drop_succ_cons,List.drop_zero]
  have hq34:Q G3 G4:=Q.trans (Below.drew (Q.refl G3)) hg4
  have hQ4:=Q.trans hQ3 hq34
  replace BL:=BL.keep hq34 BL.lt
  clear hg4 hq34 hQ3 hQ0 HPf HPt n0 n1 n2 n3 n4 n5 n6 n7 n8 lBL
  have hQ0:=Q.refl G4
  replace n0:=BL.cell 0
  replace n1:=BL.cell 1
  replace n2:=BL.cell 2
  replace n3:=BL.cell 3
  replace n4:=BL.cell 4
  replace n5:=BL.cell 5
  replace n6:=BL.cell 6
  replace n7:=BL.cell 7
  replace n8:=BL.cell 8
  simp only[zs4,zs5]at n0 n1 n2 n3 n4 n5 n6 n7 n8
  replace lBL:=BL.lt
  go_wp2_with fail
  first
  | refine(HTW.out trivial _).mono ?_
  | refine(HON.out trivial _).mono ?_
  rintro e G5⟨rfl,rfl⟩
  go_wp2_with fail
  refine(HLV.out _).mono ?_
  rintro e G5⟨rfl,rfl⟩
  clear HTW HON HLV hep m1 m2 b1 b2
  cases hlv:zoY k
  ·have hz:=LH (HUP.out hlv)
   clear HUP HLX hlv
   go_wp2_with fail
   refine cx (hz.out _ (hE.ofQ (Q.trans hq0 hQ4))) fun G6 hg6=>?_
   have hQe:=Q.trans hq0 (Q.trans hQ4 hg6)
   go_wp2
   go_ret
   exact⟨rfl,hQe⟩
  ·obtain⟨hzz,hvc⟩:=HLX.out hlv
   have hz:=LH hvc
   clear HUP HLX hlv hvc
   subst hzz
   go_wp2_with fail
   refine cx (hz.out _ (hE.ofQ (Q.trans hq0 hQ4))) fun G6 hg6=>?_
   have hQe:=Q.trans hq0 (Q.trans hQ4 hg6)
   replace BL:=BL.keep hg6 BL.lt
   clear n0 n1 n2 n3 n4 n5 n6 n7 n8 lBL hQ0
   replace n0:=BL.cell 0
   replace n1:=BL.cell 1
   replace n2:=BL.cell 2
   replace n3:=BL.cell 3
   replace n4:=BL.cell 4
   replace n5:=BL.cell 5
   replace n6:=BL.cell 6
   replace n7:=BL.cell 7
   replace n8:=BL.cell 8
   simp only[zs4,zs5]at n0 n1 n2 n3 n4 n5 n6 n7 n8
   replace lBL:=BL.lt
   go_wp2
   go_ret
   exact⟨rfl,hQe⟩
end
section
open Go.RowKit Kp
end
end Go.Proofs.YtapnkgdnflofbaaGreatDoor
namespace Kp
end Kp
namespace Go.Proofs.YtapnkgdnflofbaaGreatDoor
section
open Go.RowKit Kp
theorem ztK{a:Int}{n:Nat}(h:a.natAbs<10 ^ n)(hn:0<n):Bd n (a:Rat):=⟨by rw[Rat.num_intCast];exact h,by rw[Rat.den_intCast];exact Nat.one_lt_pow (by omega) (by decide)⟩
theorem zfc{F:Fence}{m:Nat}{P:Program}{md:Region.Mode}{ops:Array Oper}{R:Exit→Act→World→Prop}:∀ (l:List Oper) (k:Nat) (listed:Array Bool) (a:Act) (w:World),(∀ j,l[j]? = ops[k+j]?) →
  Region.seqB md ops l.length k listed=true→wpListIn F m P ops R l a w→wpAnyIn F m P md ops R l.length listed a w
 | [],_,_,_,_,_,hB,h=>⟨by simpa[Region.seqB]using hB,h⟩
 | o::l,k,listed,a,w,hl,hB,h=>by
  have h0:ops[k]? = some o:=by simpa using(hl 0).symm
  simp only[List.length_cons,Region.seqB,Bool.and_eq_true,decide_eq_true_eq]at hB
  refine⟨fun h1=>(by rw[hB.1]at h1;cases h1),fun i hi=>?_⟩
  rw[hB.1]at hi
  have hik:i=k:=by simpa using hi
  subst hik
  have hw:wpOpIn F m P ops R i (wpListIn F m P ops R l) a w:=by unfold wpOpIn;simp only[h0];exact h
  exact wpOpIn_mono (fun a' w' h'=>zfc l (i+1) _ a' w' (fun j=>by have:=hl (j+1);simpa[Nat.add_assoc,Nat.add_comm 1 j]using this) hB.2 h') hw
namespace RT
def zer:Exit→Act→World→Prop:=zbC fun _ _=>True
section
variable {P:Program} {l:List Oper} {T:Act→World→Prop} {R:Exit→Act→World→Prop} {md:Region.Mode} {n m:Nat}
def zen(P:Program)(md:Region.Mode)(l:List Oper)(T:Act→World→Prop)(n:Nat):Nat→Array Bool→Act→World→Prop
 | 0,ls,a,w=>Region.seqB md l.toArray (l.toArray.size - n) n ls=true∧∀ w',Q w w'→T a w'
 | f+1,ls,a,w=>Region.ready md l.toArray ls≠[] ∧
  ∀ i∈Region.ready md l.toArray ls,i<n∧∀ w',Q w w'→wpOp P l.toArray zer i (fun a' w''=>Q w' w''∧zen P md l T n f (ls.setIfInBounds i true) a' w'') a w'
theorem zen.later:∀ {f:Nat} {ls:Array Bool} {a:Act} {w w':World},zen P md l T n f ls a w→Q w w'→zen P md l T n f ls a w'
 | 0,_,_,_,_,h,hq=>⟨h.1,fun _ h1=>h.2 _ (hq.trans h1)⟩
 | _+1,_,_,_,_,h,hq=>⟨h.1,fun i hi=>⟨(h.2 i hi).1,fun _ h1=>(h.2 i hi).2 _ (hq.trans h1)⟩⟩
theorem zod{ops:Array Oper}{i:Nat}{N:Act→World→Prop}{a:Act}{w:World}(h:wpOp P ops zer i N a w):wpOpIn Fence.wide m P ops R i N a w:=by
 unfold wpOp at h
 unfold wpOpIn
 split
 ·next he=>simp only[he]at h;exact h
 ·next o ho =>
  simp only[ho]at h
  split
  ·next hw =>
   rw[if_pos hw]at h
   rcases h with h | ⟨_,h⟩
   ·refine⟨fun _ _=>trivial,?_⟩
    rw[show Fence.wide.round=none from rfl,Oper.semAt_none]
    unfold Oper.wp at h
    generalize (execOp a.eval o).run P w=r at h ⊢
    match r,h with
    | .ok (.value v) w',h=>exact h
    | .ok .skip w',h=>exact h
    | .ok (.defer d) w',h=>exact h
    | .ok (.enter f args) w',h =>
     refine⟨fun hd=>(by cases hd),callsIn_wide.2 (Calls.mono h fun e w'' he=>?_)⟩
     match e,he with
     | .returned v,he=>exact he
     | .panicked c,he=>exact he.elim
     | .outgrown,he=>exact absurd he (zgu _)
    | .ok (.row row args) w',h=>exact⟨fun hd=>(by cases hd),fun c cs _=>by
      obtain⟨v,w',hs,st⟩:=h c cs
      exact⟨v,w',hs,stepsIn_wide.2 st⟩⟩
    | .halt x w',h =>
     cases x <;> first | exact h.elim | exact False.elim h
   ·exact absurd h (zgu _)
  ·next hw =>
   rw[if_neg hw]at h
   exact⟨fun _ _=>trivial,h⟩
theorem zen.any(hn:n≤l.length):∀ {f:Nat} {ls:Array Bool} {a:Act} {w:World},zen P md l (fun a w=>wpListIn Fence.wide m P l.toArray R (l.drop n) a w) n f ls a w→wpAnyIn Fence.wide m P md l.toArray R (f+(l.toArray.size - n)) ls a w
 | 0,ls,a,w,h=>by
  rw[Nat.zero_add]
  have hd:(l.drop n).length=l.toArray.size - n:=by simp
  have:=zfc (F:=Fence.wide) (m:=m) (P:=P) (md:=md) (R:=R) (l.drop n) n ls a w (fun j=>by simp[List.getElem?_drop]) (by rw[hd];exact h.1) (h.2 w (Q.refl w))
  rwa[hd]at this
 | f+1,ls,a,w,h=>by
  rw[show f+1+(l.toArray.size - n)=(f+(l.toArray.size - n))+1 by omega]
  exact⟨fun e=>absurd e h.1,fun i hi=>zod (wpOp_mono (fun _ _ h'=>zen.any hn h'.2) ((h.2 i hi).2 w (Q.refl w)))⟩
theorem zlb{i:Nat}{oi:Oper}{v:Value}(hi:l.toArray[i]? = some oi)(hB:zeb md l.toArray n=true)(hin:i<n)
  (hR:∀ c a w,zer (.panic c) (a.put oi.dst v) w→zer (.panic c) a w) :
  ∀ (f:Nat) (ls:Array Bool) (a:Act) (w:World),HeadInv md l.toArray n ls →
   (∀ j oj,l.toArray[j]? = some oj→j≠i→ls.getD j true=false→(∀ e∈oj.after,Region.binds md e=true→e.on≠i)→oi.apart l.toArray oj=true) →
   i∈Region.ready md l.toArray ls→Does P l.toArray oi v a w →
   zen P md l T n f (ls.setIfInBounds i true) (a.put oi.dst v) w→zen P md l T n (f+1) ls a w:=by
 intro f
 induction f with
 | zero =>
  intro ls a w inv _ hr hd H
  refine⟨fun h=>(by rw[h]at hr;cases hr),fun j hj=>⟨zbQ hB inv hin hr j hj,fun w' hq=>?_⟩⟩
  by_cases hji:j=i
  ·subst hji
   exact hd.wpOp hi hq fun w'' hq'=>⟨hq',zen.later (f:=0) H (hq.trans hq')⟩
  ·have h1:=zbQ hB inv hin hr j hj
   have h2:=seqB_ready H.1 j (ready_mono hj hji)
   omega
 | succ f ih =>
  intro ls a w inv hf hr hd H
  refine⟨fun h=>(by rw[h]at hr;cases hr),fun j hj=>?_⟩
  have hjn:=zbQ hB inv hin hr j hj
  refine⟨hjn,fun w' hq=>?_⟩
  by_cases hji:j=i
  ·subst hji
   exact hd.wpOp hi hq fun w'' hq'=>⟨hq',H.later (hq.trans hq')⟩
  ·have h1:=(H.2 j (ready_mono hj hji)).2 w' hq
   obtain⟨hjun,oj,hoj,hall⟩:=mem_ready.1 hj
   have hno:∀ e∈oj.after,Region.binds md e=true→e.on≠i:=fun e he hb heq=>by
    have h1:=hall e he hb
    rw[heq,getD_both (mem_ready.1 hr).1]at h1
    cases h1
   have h2:=zeY hoj (hf j oj hoj hji hjun hno) (fun cs b=>zcE hB i oi cs b hi) (fun cs b=>zcE hB j oj cs b hoj) hR h1
   have hf':∀ k ok,l.toArray[k]? = some ok→k≠i→(ls.setIfInBounds j true).getD k true=false →
     (∀ e∈ok.after,Region.binds md e=true→e.on≠i)→oi.apart l.toArray ok=true:=fun k ok hk hki hun hn=>by
    by_cases hjk:j=k
    ·subst hjk;exact hf j ok hk hki hjun hn
    ·rw[getD_set_ne true hjk]at hun
     exact hf k ok hk hki hun hn
   refine wpOp_mono (fun a' w'' h3=>⟨h3.2.1,ih (ls.setIfInBounds j true) a' w'' (inv.set hj hjn) hf' (ready_mono hr (Ne.symm hji)) (hd.alike h3.1 (hq.trans h3.2.1)) ?_⟩) h2
   rw[Array.setIfInBounds_comm _ _ hji]
   exact h3.2.2
def zl(P:Program)(md:Region.Mode)(l:List Oper)(T:Act→World→Prop)(n f:Nat)(ls:Array Bool)(a:Act)(w:World):Prop :=
 zeb md l.toArray n=true→HeadInv md l.toArray n ls→zen P md l T n f ls a w
theorem zaG(n:Nat){id:Nat}{a:Act}{w:World}(hm:P.follows .mixedOrders=true)(hB:zeb .any l.toArray n=true)(hn:decide (n≤l.length)=true)
  (h:zl P .any l (fun a w=>wpListIn Fence.wide m P l.toArray R (l.drop n) a w) n n (Array.replicate l.toArray.size false) a w.drew):(Code.region id l.toArray true).wpIn Fence.wide m P R a w:=by
 have hn':n≤l.length:=by simpa using hn
 have inv0:HeadInv .any l.toArray n (Array.replicate l.toArray.size false) :=
  ⟨by simp,fun j oj _ hl=>(by rw[getD_replicate_false]at hl;cases hl),fun t _ ht=>getD_in (by simpa using ht) (getD_replicate_false _ _)⟩
 refine wpIn_region_any hm ?_
 have:=zen.any hn' (h hB inv0)
 rwa[show n+(l.toArray.size - n)=l.toArray.size by simp;omega]at this
theorem zT{i:Nat}{oi:Oper}{v:Value}{f:Nat}{ls:Array Bool}{a:Act}{w:World}(hi:l[i]? = some oi)(hin:decide (i<n)=true)
  (hf:Region.free md l.toArray ls i=true)(hr:(Region.ready md l.toArray ls).contains i=true)
  (hR:∀ c a w,zer (.panic c) (a.put oi.dst v) w→zer (.panic c) a w)(hd:Does P l.toArray oi v a w)
  (h:zl P md l T n f (ls.setIfInBounds i true) (a.put oi.dst v) w):zl P md l T n (f+1) ls a w:=fun hB inv=>by
 have hr':i∈Region.ready md l.toArray ls:=by simpa using hr
 have hin':i<n:=by simpa using hin
 exact zlb (zbV hi) hB hin' hR f ls a w inv (Region.free_spec (zbV hi) hf) hr' hd (h hB (inv.set hr' hin'))
theorem zS{i:Nat}{oi:Oper}{v:Value}{f:Nat}{ls:Array Bool}{a:Act}{w:World}(hi:l[i]? = some oi)(hin:decide (i<n)=true)
  (hf:Region.free md l.toArray ls i=true)(hr:(Region.ready md l.toArray ls).contains i=true)
  (hR:∀ c a w,zer (.panic c) (a.put oi.dst v) w→zer (.panic c) a w)(hw:Region.wanted oi (yielded l.toArray a.tmps)=true)
  (hx:∀ w',Q w w'→(execOp a.eval oi).run P w'=.ok (.value v) w')
  (h:zl P md l T n f (ls.setIfInBounds i true) (a.put oi.dst v) w):zl P md l T n (f+1) ls a w :=
 zT hi hin hf hr hR (.inl ⟨hw,hx⟩) h
theorem zbl{i:Nat}{oi:Oper}{f:Nat}{ls:Array Bool}{a:Act}{w:World}(hi:l[i]? = some oi)(hin:decide (i<n)=true)
  (hf:Region.free md l.toArray ls i=true)(hr:(Region.ready md l.toArray ls).contains i=true)
  (hR:∀ c a w,zer (.panic c) (a.put oi.dst undef) w→zer (.panic c) a w)(hw:Region.wanted oi (yielded l.toArray a.tmps)=false)
  (h:zl P md l T n f (ls.setIfInBounds i true) (a.put oi.dst undef) w):zl P md l T n (f+1) ls a w :=
 zT hi hin hf hr hR (.inr (.inr ⟨hw,rfl⟩)) h
theorem svp(i:Nat){oi:Oper}{v:Value}{f:Nat}{ls:Array Bool}{a a':Act}{w:World}
  (h:zl P md l T n f (ls.setIfInBounds i true) a' w)(hi:l[i]? = some oi:=by exact rfl)(hin:decide (i<n)=true:=by exact rfl)
  (hf:Region.free md l.toArray ls i=true:=by kernel_rfl)(hr:(Region.ready md l.toArray ls).contains i=true:=by kernel_rfl)
  (hw:Region.wanted oi (yielded l.toArray a.tmps)=true:=by rfl)
  (hx:∀ w',Q w w'→(execOp a.eval oi).run P w'=.ok (.value v) w':=by intro w' hq;go_simp;try with_reducible rfl)
  (hR:∀ c a w,zer (.panic c) (a.put oi.dst v) w→zer (.panic c) a w:=by exact fun _ _ _ h=>h)
  (ha:a.put oi.dst v=a':=by simp only[Act.put,zs1,zs2,zs3];exact rfl):zl P md l T n (f+1) ls a w :=
 zS hi hin hf hr hR hw hx (ha ▸ h)
theorem svq(i:Nat){oi:Oper}{v:Value}{f:Nat}{ls:Array Bool}{a a':Act}{w:World}(hi:l[i]? = some oi)
  (hx:∀ w',Q w w'→(execOp a.eval oi).run P w'=.ok (.value v) w')
  (h:zl P md l T n f (ls.setIfInBounds i true) a' w)(hin:decide (i<n)=true:=by exact rfl)
  (hf:Region.free md l.toArray ls i=true:=by kernel_rfl)(hr:(Region.ready md l.toArray ls).contains i=true:=by kernel_rfl)
  (hw:Region.wanted oi (yielded l.toArray a.tmps)=true:=by rfl)
  (hR:∀ c a w,zer (.panic c) (a.put oi.dst v) w→zer (.panic c) a w:=by exact fun _ _ _ h=>h)
  (ha:a.put oi.dst v=a':=by simp only[Act.put,zs1,zs2,zs3];exact rfl):zl P md l T n (f+1) ls a w :=
 zS hi hin hf hr hR hw hx (ha ▸ h)
theorem svi(i:Nat){oi:Oper}{f:Nat}{ls:Array Bool}{a a':Act}{w:World}
  (h:zl P md l T n f (ls.setIfInBounds i true) a' w)(hi:l[i]? = some oi:=by exact rfl)(hin:decide (i<n)=true:=by exact rfl)
  (hf:Region.free md l.toArray ls i=true:=by kernel_rfl)(hr:(Region.ready md l.toArray ls).contains i=true:=by kernel_rfl)
  (hw:Region.wanted oi (yielded l.toArray a.tmps)=false:=by rfl)
  (hR:∀ c a w,zer (.panic c) (a.put oi.dst undef) w→zer (.panic c) a w:=by exact fun _ _ _ h=>h)
  (ha:a.put oi.dst undef=a':=by simp only[Act.put,zs1,zs2,zs3];exact rfl):zl P md l T n (f+1) ls a w :=
 zbl hi hin hf hr hR hw (ha ▸ h)
theorem zk{i:Nat}{oi:Oper}{v:Value}{n f:Nat}{ls:Array Bool}{a:Act}{w:World}{g:FuncId}{args:Array Value}(hi:l[i]? = some oi)(hin:decide (i<n)=true)
  (hf:Region.free md l.toArray ls i=true)(hr:(Region.ready md l.toArray ls).contains i=true)
  (hR:∀ c a w,zer (.panic c) (a.put oi.dst v) w→zer (.panic c) a w)(hw:Region.wanted oi (yielded l.toArray a.tmps)=true)
  (hx:∀ w',Q w w'→(execOp a.eval oi).run P w'=.ok (.enter g args) w')
  (hc:∀ w',Q w w'→Calls P g args w' fun e w''=>e=.returned v∧Q w' w'')
  (h:zl P md l T n f (ls.setIfInBounds i true) (a.put oi.dst v) w):zl P md l T n (f+1) ls a w :=
 zT hi hin hf hr hR (.inr (.inl ⟨hw,g,args,hx,hc⟩)) h
theorem zh{ls:Array Bool}{a:Act}{w:World}(hB:Region.seqB md l.toArray (l.toArray.size - n) n ls=true)(h:∀ w',Q w w'→T a w'):zl P md l T n 0 ls a w :=
 fun _ _=>⟨hB,h⟩
end
end RT
def zba{α:Type}(k:Nat)(enc:α→List Value)(w:World)(v:Value)(l:List α):Prop:=∃ a cap,v=.slice a l.length cap∧∀ i (h:i<l.length),∃ b o,a=some ⟨b,o,none⟩∧b<w.heap.size∧∀ j u,(enc l[i])[j]? = some u→w.cell? ⟨b,o+i*k+j,none⟩=some u
section
variable {α:Type} {k:Nat} {enc:α→List Value}
theorem zba.keepB{w w':World}{B:Nat}{v:Value}{l:List α}(h:zba k enc w v l)(hq:Below B w w')(hB:w.heap.size≤B):zba k enc w' v l:=by
 obtain⟨a,cap,rfl,hc⟩:=h
 refine⟨a,cap,rfl,fun i hi=>?_⟩
 obtain⟨b,o,ha,hb,h⟩:=hc i hi
 exact⟨b,o,ha,Nat.lt_of_lt_of_le hb hq.size,fun j u hu=>(hq.cell (p:=⟨b,o+i*k+j,none⟩) (show b<B by omega)).trans (h j u hu)⟩
theorem zba.keep{w w':World}{v:Value}{l:List α}(h:zba k enc w v l)(hq:Q w w'):zba k enc w' v l:=h.keepB hq (Nat.le_refl _)
def rowOf(enc:α→List Value)(l:List α):List Value:=l.flatMap enc
theorem zif(hk:∀ x,(enc x).length=k):∀ l:List α,(rowOf enc l).length=l.length*k
 | []=>by simp[rowOf]
 | x::l=>by
  have ih:=zif hk l
  unfold rowOf at *
  rw[List.flatMap_cons,List.length_append,hk,ih,List.length_cons,Nat.succ_mul];omega
theorem zc0(hk:∀ x,(enc x).length=k):∀ (l:List α) (i:Nat) (h:i<l.length) (j:Nat),j<k→(rowOf enc l)[i*k+j]? = (enc l[i])[j]?
 | [],i,h,_,_=>absurd h (Nat.not_lt_zero _)
 | x::l,0,_,j,hj=>by
  unfold rowOf
  rw[List.flatMap_cons,Nat.zero_mul,Nat.zero_add,List.getElem?_append_left (by rw[hk];exact hj)];rfl
 | x::l,i+1,h,j,hj=>by
  have ih:=zc0 hk l i (by simpa using h) j hj
  unfold rowOf at *
  rw[List.flatMap_cons,List.getElem?_append_right (by rw[hk,Nat.succ_mul];omega),hk,show (i+1)*k+j - k=i*k+j by rw[Nat.succ_mul];omega]
  exact ih
theorem zjF(l:List α)(x:α):rowOf enc (l++[x])=rowOf enc l++enc x:=by unfold rowOf;rw[List.flatMap_append];simp
theorem zba.of_row{w:World}{B:Nat}{t:TypeId}{v:Value}{l:List α}(hk:∀ x,(enc x).length=k)(h:w.ownsRow B t k v l.length (rowOf enc l)):zba k enc w v l:=by
 have h0:=h
 rcases h.2 with⟨rfl,hn⟩|⟨g,cap,cur,rfl,hg,hc,hnc,hcm,hsz,htk⟩
 ·exact⟨none,0,by rw[hn],fun i hi=>by omega⟩
 ·refine⟨_,cap,rfl,fun i hi=>⟨g,0,rfl,(Array.getElem?_eq_some_iff.1 hc).1,fun j u hu=>?_⟩⟩
  have hj:j<k:=by have:=(List.getElem?_eq_some_iff.1 hu).1;rwa[hk]at this
  have hb:i*k+j<l.length*k:=by
   have h1:=Nat.mul_le_mul_right k (show i+1≤l.length from hi)
   rw[Nat.succ_mul]at h1;omega
  rw[Nat.zero_add,World.ownsRow.cellAt h0 (i*k+j) hb,zc0 hk l i hi j hj]
  exact hu
end
theorem zcT{P:Program}{o:Oper}{ev:Operand→Value}(ty:TypeId)(x:Operand)(ho:o.op=.load ty x)(g:Nat)(hx:ev x=.pointer (some ⟨g,0,none⟩)){t:TypeId}{cs:List Value}{W:World}(hb:Blk W g cs t)(d:TypeDesc)
  (hu:P.underlying ty=some d)(hd:(match d with | .struct _ | .array _ _=>true | _=>false)=true)(hi:(P.info? ty).map (·.size)=some cs.length) :
  (execOp ev o).run P W=.ok (.value (.agg cs.toArray)) W:=by
 unfold execOp
 simp only[ho,hx,Instr.loadAt,Instr.sureAddr,Sem.run_bind,Sem.run_pure,Result.andThen_ok,run_loadVar_row W g t ty cs.toArray (0,0) d hb hu hd (by simpa using hi)]
end
end Go.Proofs.YtapnkgdnflofbaaGreatDoor
