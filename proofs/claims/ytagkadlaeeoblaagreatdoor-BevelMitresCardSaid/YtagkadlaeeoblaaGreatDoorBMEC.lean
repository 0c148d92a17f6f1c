/-
  Walks of package bevel: the mitre of two level members.
-/
import Derived.Test.YtagkadlaeeoblaaGreatDoorBMEB
import Derived.Test.YtagkadlaeeoblaaGreatDoorBM12
set_option maxRecDepth 100000
set_option maxHeartbeats 8000000
namespace Go.Proofs.YtagkadlaeeoblaaGreatDoor
open Go.RowKit Go.Shelf Kp
open Go.Lib (decDigits)
attribute [local go_sem] Oper.semAt_some
theorem zqQ(A B C A' B' C':Str)(w:World):(Op.equalIn 10000 29 (.agg #[.string ⟨A.toArray⟩,.string ⟨B.toArray⟩,.string ⟨C.toArray⟩]) (.agg #[.string ⟨A'.toArray⟩,.string ⟨B'.toArray⟩,.string ⟨C'.toArray⟩])).run Tryz.prog w=.ok (decide (A=A'∧B=B'∧C=C')) w:=by
 have u3:=Tryz.underlying23
 have a3:=Tryz.isAgg23
 have z3:=Tryz.sizeOf23
 rw[show (10000:Nat)=9999+1 from rfl,Op.equalIn]
 simp only[Sem.run_bind,run_underlying Tryz.underlying29,Result.andThen_ok]
 go_simp
 by_cases h1:A=A' <;> by_cases h2:B=B' <;> by_cases h3:C=C' <;> simp[h1,h2,h3]
theorem zpq{A B C A' B' C':Str}(h:((A == A') && ((B == B') && (C == C')))=false)(w:World):(Op.equalIn 10000 29 (.agg #[.string ⟨A.toArray⟩,.string ⟨B.toArray⟩,.string ⟨C.toArray⟩]) (.agg #[.string ⟨A'.toArray⟩,.string ⟨B'.toArray⟩,.string ⟨C'.toArray⟩])).run Tryz.prog w=.ok false w:=by
 rw[zqQ,decide_eq_false]
 rintro⟨rfl,rfl,rfl⟩
 simp at h
theorem znB(A B C:Str)(w:World):(Op.equalIn 10000 29 (.agg #[.string ⟨A.toArray⟩,.string ⟨B.toArray⟩,.string ⟨C.toArray⟩]) (.agg #[.string ⟨A.toArray⟩,.string ⟨B.toArray⟩,.string ⟨C.toArray⟩])).run Tryz.prog w=.ok true w:=by
 rw[zqQ,decide_eq_true ⟨rfl,rfl,rfl⟩]
def SpE(p q:P3)(b:Bool):Prop:=∀ w,(Op.equalIn 10000 29 (V3 p) (V3 q)).run Tryz.prog w=.ok b w
theorem SpE.yes{p q:P3}(h:p=q):SpE p q true:=fun w=>by subst h;exact znB _ _ _ w
theorem SpE.no{p q:P3}(h:p≠q):SpE p q false:=fun w=>zpq (zpS h) w
theorem zim{b g:Nat}{x y z:Value}(hg:b≤g)(w:World):(zph b).r w (((w.setCell ⟨g,0,none⟩ x).setCell ⟨g,1,none⟩ y).setCell ⟨g,2,none⟩ z):=fun _ =>
 (((Below.refl _ _).setCell (p:=⟨g,0,none⟩) hg _).setCell (p:=⟨g,1,none⟩) hg _).setCell (p:=⟨g,2,none⟩) hg _
theorem Blk.setRow{w:World}{b g:Nat}{cs:List Value}{t:TypeId}(h:Blk w b cs t)(hne:b≠g)(l:Array Value):Blk (w.setRow g l) b cs t:=by
 unfold Blk World.setRow at *
 rw[Array.getElem?_modify,if_neg (fun e=>hne e.symm)]
 exact h
def zn5(u v:P3):List (Rat × Rat):=[(1 / zbE (coR u v),flR u u*flR v v),(-1*(1 / zbE (coR u v)*flR u v),1)]
def zrd(W:World)(same:Prop)(u v:P3)(e:Ending)(w':World):Prop :=
 (same→e=.returned (.tuple #[.slice none 0 0,.int .i64 9])∧Q W w')∧(¬ same→coR u v=0→e=.returned (.tuple #[.slice none 0 0,.int .i64 12])∧Q W w')∧(¬ same→coR u v≠0→MkP W (zn5 u v) e w')
theorem zgV(tu sm:Bool)(m n:Vm)(hm:VmOk m)(hn:VmOk n)(z1:m.t.z=m.f.z)(z2:n.f.z=m.f.z)(z3:n.t.z=m.f.z)
  (q11:SpE m.f n.f (!tu))(q12:SpE m.f n.t (tu && sm))(q21:SpE m.t n.f tu)(q22:SpE m.t n.t (!tu && sm))(q31:tu=false→SpE n.t m.f false)(q32:tu=true→SpE n.t m.t false)(w:World)(hE:Env w) :
  Calls Tryz.prog 10 #[.agg m.c.toArray,.agg n.c.toArray] w (zrd w (sm=true) (if tu then m.f.sub m.t else m.t.sub m.f) (n.t.sub n.f)):=by
 have HC:=LH (fun b cap ty w hw hb=>zek [m,n] (by intro x hx;simp only[List.mem_cons,List.not_mem_nil,or_false]at hx;rcases hx with rfl | rfl;exact hm;exact hn) (by simp) b cap ty w hw hb)
 simp only[List.flatMap_cons,List.flatMap_nil,List.append_nil,List.length_cons,List.length_nil]at HC
 have HDa:=LH (fun b w hw hb=>za3 m.k m.F m.O m.W m.D m.f m.t hm.f hm.t (by decide) b w hw hb)
 have HDb:=LH (fun b w hw hb=>za3 m.k m.F m.O m.W m.D m.t m.f hm.t hm.f (by decide) b w hw hb)
 have HD2:=LH (fun b w hw hb=>za3 n.k n.F n.O n.W n.D n.f n.t hn.f hn.t (by decide) b w hw hb)
 have bu1:B3 25 (m.t.sub m.f):=⟨zbm hm.t.1 hm.f.1,zbm hm.t.2.1 hm.f.2.1,zbm hm.t.2.2 hm.f.2.2⟩
 have bu2:B3 25 (m.f.sub m.t):=⟨zbm hm.f.1 hm.t.1,zbm hm.f.2.1 hm.t.2.1,zbm hm.f.2.2 hm.t.2.2⟩
 have bv:B3 25 (n.t.sub n.f):=⟨zbm hn.t.1 hn.f.1,zbm hn.t.2.1 hn.f.2.1,zbm hn.t.2.2 hn.f.2.2⟩
 clear hm hn
 generalize n.t.sub n.f=v at *
 generalize ha:m.t.sub m.f=a at *
 generalize hb:m.f.sub m.t=b at *
 clear ha hb
 obtain⟨u,hu,bu⟩:∃ u,(if tu then b else a)=u∧B3 25 u:=⟨_,rfl,by cases tu;exact bu1;exact bu2⟩
 rw[hu]
 clear bu1 bu2
 unfold zrd
 have HCO:=LH (fun b w hw hb=>zkA u v bu bv (by decide) b w hw hb)
 have HS:=LH (fun w=>zc3 (coR u v) w)
 have HUU:=LH (fun b w hw hb=>zcn u u bu bu (by decide) b w hw hb)
 have HVV:=LH (fun b w hw hb=>zcn v v bv bv (by decide) b w hw hb)
 have HUV:=LH (fun b w hw hb=>zcn u v bu bv (by decide) b w hw hb)
 have bco:Bd 101 (zbE (coR u v)):=ze8 ((zbm (bu.1.mul bv.2.1) (bu.2.1.mul bv.1)).mono (by decide))
 have buu:Bd 101 (flR u u):=((bu.1.mul bu.1).add (bu.2.1.mul bu.2.1)).mono (by decide)
 have bvv:Bd 101 (flR v v):=((bv.1.mul bv.1).add (bv.2.1.mul bv.2.1)).mono (by decide)
 have buv:Bd 101 (flR u v):=((bu.1.mul bv.1).add (bu.2.1.mul bv.2.1)).mono (by decide)
 have HR:=LH (fun b w hw hb=>zbD (flR u u) (flR v v) buu bvv (by decide) b w hw hb)
 have H0:Hid ((zh (zbE (coR u v)) == [48])=true→coR u v=0):=LH (fun h=>by
  by_cases e:coR u v=0
  ·exact e
  ·exfalso
   rw[beq_iff_eq,← zaN]at h
   exact zaw (zb3 e) (zaY h))
 have HN:Hid ((zh (zbE (coR u v)) == [48])=false→coR u v≠0):=LH (fun h e=>by
  rw[e,show zbE 0=0 from rfl,zaN]at h
  exact absurd h (by decide))
 have HSH:Hid (coR u v≠0→∀ b w,Env w→zac w b→CR 27 #[.pointer (some ⟨b,0,none⟩),.string ⟨#[49]⟩,.string ⟨(zh (zbE (coR u v))).toArray⟩] w (.string ⟨(zh (1 / zbE (coR u v))).toArray⟩)):=LH (fun hc b w hw hb=>by
  have h:=zgS 1 (zbE (coR u v)) zco bco (by have:=npos (zb3 hc);omega) (by decide) b w hw hb
  rw[zb0]at h
  exact h)
 have bsh:coR u v≠0→Bd 102 (1 / zbE (coR u v)):=fun hc=>zco.quot bco (npos (zb3 hc))
 have HSU:=LH (fun(hc:coR u v≠0) b w hw hb=>zbD (1 / zbE (coR u v)) (flR u v) (bsh hc) buv (by decide) b w hw hb)
 have HC2:Hid (coR u v≠0→∀ b w,Env w→zac w b→CR 29 #[.pointer (some ⟨b,0,none⟩),.string ⟨#[45,49]⟩,.string ⟨(zh (1 / zbE (coR u v)*flR u v)).toArray⟩] w (.string ⟨(zh (-1*(1 / zbE (coR u v)*flR u v))).toArray⟩)):=LH (fun hc b w hw hb=>by
  have h:=zbD (-1) (1 / zbE (coR u v)*flR u v) ze5 ((bsh hc).mul buv) (by decide) b w hw hb
  rw[zfq]at h
  exact h)
 have HM:Hid (coR u v≠0→∀ b v' w,Env w→zac w b→TSl w w.heap.size v' [(zh (1 / zbE (coR u v)),zh (flR u u*flR v v)),(zh (-1*(1 / zbE (coR u v)*flR u v)),[49])]→Calls Tryz.prog 28 #[.pointer (some ⟨b,0,none⟩),v'] w (MkP w (zn5 u v))):=LH (fun hc b v' w hw hb hv=>by
  refine ze4 (zn5 u v) (fun t ht=>?_) (by unfold zn5;simp) b v' w hw hb (by
   have e:(zn5 u v).map ofT=[(zh (1 / zbE (coR u v)),zh (flR u u*flR v v)),(zh (-1*(1 / zbE (coR u v)*flR u v)),[49])]:=by
    unfold zn5
    rw[List.map_cons,List.map_cons,List.map_nil]
    unfold ofT
    rw[zb0]
   rw[e]
   exact hv)
  unfold zn5 at ht
  rw[List.mem_cons,List.mem_singleton]at ht
  rcases ht with rfl | rfl
  ·exact⟨(bsh hc).zaj (by decide),(buu.mul bvv).zaj (by decide),Rat.num_nonneg.2 (Rat.mul_nonneg (Rat.add_nonneg (sq_nonneg _) (sq_nonneg _)) (Rat.add_nonneg (sq_nonneg _) (sq_nonneg _)))⟩
  ·exact⟨(ze5.mul ((bsh hc).mul buv)).zaj (by decide),zco.zaj (by decide),(show (0:Int)≤(1:Rat).num by decide)⟩)
 clear bco buu bvv buv bsh bu bv
 generalize zn5 u v=T at *
 generalize coR u v=co at *
 generalize zh (-1*(1 / zbE co*flR u v))=C2 at *
 generalize zh (1 / zbE co*flR u v)=SU at *
 generalize zh (1 / zbE co)=SH at *
 generalize zh (zbE co)=AC at *
 generalize zh (flR u u*flR v v)=RR at *
 generalize zh (flR u u)=UU at *
 generalize zh (flR v v)=VV at *
 generalize zh (flR u v)=UV at *
 obtain⟨k,F,O,f,t,W,D⟩:=m
 obtain⟨k',F',O',f',t',W',D'⟩:=n
 unfold SpE V3 at q11 q12 q21 q22 q31 q32
 unfold Vm.c at *
 unfold VN at HDa HDb HD2
 simp only at *
 simp only[z2,z3]at HD2
 simp only[z1]at HDa HDb
 simp only[z1,z2,z3]at HC q11 q12 q21 q22 q31 q32 ⊢
 simp only[List.cons_append,List.nil_append]at HC
 cases tu
 case' false =>
  have hu':a=u:=hu
  rw[hu']at HDa
  have HD1:=HDa
  have q3:=q31 rfl
  clear HDb hu q31 q32
 case' true =>
  have hu':b=u:=hu
  rw[hu']at HDb
  have HD1:=HDb
  have q3:=q32 rfl
  clear HDa hu q31 q32
 all_goals cases sm
 all_goals
  simp only[Bool.not_true,Bool.not_false,Bool.true_and,Bool.false_and,Bool.false_eq_true]at *
  unfold V3 at HD1 HD2 HCO HUU HVV HUV
  generalize zh v.x=VX at *
  generalize zh v.y=VY at *
  generalize zh v.z=VZ at *
  generalize zh u.x=UX at *
  generalize zh u.y=UY at *
  generalize zh u.z=UZ at *
  clear z1 z2 z3
  generalize zh f.x=P1 at *
  generalize zh f.y=P2 at *
  generalize zh f.z=Z at *
  generalize zh t.x=Q1 at *
  generalize zh t.y=Q2 at *
  generalize zh f'.x=R1 at *
  generalize zh f'.y=R2 at *
  generalize zh t'.x=S1 at *
  generalize zh t'.y=S2 at *
  obtain⟨W0,hW0⟩:∃ W0,(w.alloc (.cells #[.int .i64 k,.int .i64 F,.int .i64 O,.string ⟨P1.toArray⟩,.string ⟨P2.toArray⟩,.string ⟨Z.toArray⟩,.string ⟨Q1.toArray⟩,.string ⟨Q2.toArray⟩,.string ⟨Z.toArray⟩,.int .i64 W,.int .i64 D] 33)).alloc (.cells #[.int .i64 k',.int .i64 F',.int .i64 O',.string ⟨R1.toArray⟩,.string ⟨R2.toArray⟩,.string ⟨Z.toArray⟩,.string ⟨S1.toArray⟩,.string ⟨S2.toArray⟩,.string ⟨Z.toArray⟩,.int .i64 W',.int .i64 D'] 33)=W0:=⟨_,rfl⟩
  have hq0:Q w W0:=by rw[← hW0];exact bt
  have BM:Blk W0 w.heap.size [.int .i64 k,.int .i64 F,.int .i64 O,.string ⟨P1.toArray⟩,.string ⟨P2.toArray⟩,.string ⟨Z.toArray⟩,.string ⟨Q1.toArray⟩,.string ⟨Q2.toArray⟩,.string ⟨Z.toArray⟩,.int .i64 W,.int .i64 D] 33:=by rw[← hW0];exact(Blk.new w _ _).alloc _
  have BN:Blk W0 (w.heap.size+1) [.int .i64 k',.int .i64 F',.int .i64 O',.string ⟨R1.toArray⟩,.string ⟨R2.toArray⟩,.string ⟨Z.toArray⟩,.string ⟨S1.toArray⟩,.string ⟨S2.toArray⟩,.string ⟨Z.toArray⟩,.int .i64 W',.int .i64 D'] 33:=by rw[← hW0];exact Blk.new1 w _ _ _
  have hE0:=hE.ofQ hq0
  have hQ0:=Q.refl W0
  replace m0:=BM.cell
  replace lBM:=BM.lt
  replace n0:=BN.cell
  replace lBN:=BN.lt
  have BC:=Blk.new W0 ([.int .i64 k,.int .i64 F,.int .i64 O,.string ⟨P1.toArray⟩,.string ⟨P2.toArray⟩,.string ⟨Z.toArray⟩,.string ⟨Q1.toArray⟩,.string ⟨Q2.toArray⟩,.string ⟨Z.toArray⟩,.int .i64 W,.int .i64 D]++[.int .i64 k',.int .i64 F',.int .i64 O',.string ⟨R1.toArray⟩,.string ⟨R2.toArray⟩,.string ⟨Z.toArray⟩,.string ⟨S1.toArray⟩,.string ⟨S2.toArray⟩,.string ⟨Z.toArray⟩,.int .i64 W',.int .i64 D']) 33
  simp only[List.cons_append,List.nil_append]at BC
  go_enter Tryz.func10,Tryz.ntmps10
  go_wp2_with fail
  refine cx (HC.out _ _ _ _ (hE0.ofQ bt) BC) fun G1 hq1=>?_
  have hs1:Q W0 G1:=Q.trans bt hq1
  have hQ1:Q W0 G1:=Q.trans hQ0 hs1
  replace BM:=BM.keep hs1 BM.lt
  replace m0:=BM.cell
  replace lBM:=BM.lt
  replace BN:=BN.keep hs1 BN.lt
  replace n0:=BN.cell
  replace lBN:=BN.lt
  clear BC hW0 HC
  have BS:=Blk.new G1 [.string ⟨P1.toArray⟩,.string ⟨P2.toArray⟩,.string ⟨Z.toArray⟩,.string ⟨Q1.toArray⟩,.string ⟨Q2.toArray⟩,.string ⟨Z.toArray⟩] 29
  go_wp2
  refine wp_loop_rounds 3 ?_
  rw[rounds_succ]
  go_wp2
  refine wp_loop_rounds 3 ?_
  rw[rounds_succ]
  go_wp2
  rw[rounds_succ]
  go_wp2
  rw[rounds_succ]
  go_wp2
  generalize hX:World.alloc _ _=X
  have hqX:Q G1 X:=by rw[← hX];exact bt
  replace BS:=BS.keep (show Below (G1.alloc _).heap.size (G1.alloc _) X by rw[← hX];exact bt) (by simp)
  clear hX
  have hQ0:=Q.refl X
  replace BM:=BM.keep hqX BM.lt
  replace BN:=BN.keep hqX BN.lt
  replace m0:=BM.cell
  replace lBM:=BM.lt
  replace n0:=BN.cell
  replace lBN:=BN.lt
  replace s0:=BS.cell
  replace lBS:=BS.lt
  rw[rounds_succ]
  go_wp2
  refine wp_loop_rounds 3 ?_
  rw[rounds_succ]
  go_wp2
  rw[rounds_succ]
  go_wp2
  rw[rounds_succ]
  go_wp2
  generalize hX2:World.alloc _ _=X2
  have hqX2:Q X X2:=by rw[← hX2];exact bt
  clear hX2 BS lBS
  replace BM:=BM.keep hqX2 BM.lt
  replace BN:=BN.keep hqX2 BN.lt
  have hw2:Q w X2:=Q.trans hq0 (Q.trans hQ1 (Q.trans hqX hqX2))
  clear hq1 hs1 hQ1 hqX hqX2 hE0 hq0
  have hQ0:=Q.refl X2
  replace m0:=BM.cell
  replace lBM:=BM.lt
  replace n0:=BN.cell
  replace lBN:=BN.lt
  rw[rounds_succ]
 rotate_left
 ·go_wp2
  go_ret2
  exact⟨fun _=>⟨rfl,hw2⟩,fun h=>absurd trivial h,fun h=>absurd trivial h⟩
 rotate_left
 ·go_wp2
  go_ret2
  exact⟨fun _=>⟨rfl,hw2⟩,fun h=>absurd trivial h,fun h=>absurd trivial h⟩
 case' _ =>
  have fz:=BM.frozen
  have hwY:=(((((hw2.setCell (p:=⟨w.heap.size,3,none⟩) (Nat.le_refl _) (.string ⟨Q1.toArray⟩)).setCell (p:=⟨w.heap.size,4,none⟩) (Nat.le_refl _) (.string ⟨Q2.toArray⟩)).setCell (p:=⟨w.heap.size,5,none⟩) (Nat.le_refl _) (.string ⟨Z.toArray⟩)).setCell (p:=⟨w.heap.size,6,none⟩) (Nat.le_refl _) (.string ⟨P1.toArray⟩)).setCell (p:=⟨w.heap.size,7,none⟩) (Nat.le_refl _) (.string ⟨P2.toArray⟩)).setCell (p:=⟨w.heap.size,8,none⟩) (Nat.le_refl _) (.string ⟨Z.toArray⟩)
  have BY:=(((((BM.set 3 (.string ⟨Q1.toArray⟩)).set 4 (.string ⟨Q2.toArray⟩)).set 5 (.string ⟨Z.toArray⟩)).set 6 (.string ⟨P1.toArray⟩)).set 7 (.string ⟨P2.toArray⟩)).set 8 (.string ⟨Z.toArray⟩)
  have NY:=(((((BN.setOther (show w.heap.size≠w.heap.size+1 by omega) 3 (.string ⟨Q1.toArray⟩)).setOther (show w.heap.size≠w.heap.size+1 by omega) 4 (.string ⟨Q2.toArray⟩)).setOther (show w.heap.size≠w.heap.size+1 by omega) 5 (.string ⟨Z.toArray⟩)).setOther (show w.heap.size≠w.heap.size+1 by omega) 6 (.string ⟨P1.toArray⟩)).setOther (show w.heap.size≠w.heap.size+1 by omega) 7 (.string ⟨P2.toArray⟩)).setOther (show w.heap.size≠w.heap.size+1 by omega) 8 (.string ⟨Z.toArray⟩)
  simp only[List.set_cons_zero,List.set_cons_succ]at BY
  go_wp2_with fail
  generalize hX3:World.setCell _ _ _=X3 at *
  have hgs:X3.heap.size=X2.heap.size:=by rw[← hX3];simp
  clear hX3 fz
  generalize X2.heap.size=gc at *
  obtain⟨c3,c4,c6,c7,BX,HD⟩:∃ c3 c4 c6 c7:Str,Blk X3 w.heap.size [.int .i64 k,.int .i64 F,.int .i64 O,.string ⟨c3.toArray⟩,.string ⟨c4.toArray⟩,.string ⟨Z.toArray⟩,.string ⟨c6.toArray⟩,.string ⟨c7.toArray⟩,.string ⟨Z.toArray⟩,.int .i64 W,.int .i64 D] 33∧Hid (∀ b w,Env w→zac w b→CR 24 #[.pointer (some ⟨b,0,none⟩),.agg #[.int .i64 k,.int .i64 F,.int .i64 O,.string ⟨c3.toArray⟩,.string ⟨c4.toArray⟩,.string ⟨Z.toArray⟩,.string ⟨c6.toArray⟩,.string ⟨c7.toArray⟩,.string ⟨Z.toArray⟩,.int .i64 W,.int .i64 D]] w (.agg #[.string ⟨UX.toArray⟩,.string ⟨UY.toArray⟩,.string ⟨UZ.toArray⟩])):=⟨Q1,Q2,P1,P2,BY,HD1⟩
 rotate_left
 case' _ =>
  have NY:=BN
  have hwY:=hw2
  go_wp2_with fail
  generalize X2=X3 at *
  obtain⟨gc,hgs⟩:∃ gc,X3.heap.size=gc:=⟨_,rfl⟩
  rw[hgs]
  obtain⟨c3,c4,c6,c7,BX,HD⟩:∃ c3 c4 c6 c7:Str,Blk X3 w.heap.size [.int .i64 k,.int .i64 F,.int .i64 O,.string ⟨c3.toArray⟩,.string ⟨c4.toArray⟩,.string ⟨Z.toArray⟩,.string ⟨c6.toArray⟩,.string ⟨c7.toArray⟩,.string ⟨Z.toArray⟩,.int .i64 W,.int .i64 D] 33∧Hid (∀ b w,Env w→zac w b→CR 24 #[.pointer (some ⟨b,0,none⟩),.agg #[.int .i64 k,.int .i64 F,.int .i64 O,.string ⟨c3.toArray⟩,.string ⟨c4.toArray⟩,.string ⟨Z.toArray⟩,.string ⟨c6.toArray⟩,.string ⟨c7.toArray⟩,.string ⟨Z.toArray⟩,.int .i64 W,.int .i64 D]] w (.agg #[.string ⟨UX.toArray⟩,.string ⟨UY.toArray⟩,.string ⟨UZ.toArray⟩])):=⟨P1,P2,Q1,Q2,BM,HD1⟩
 all_goals
  replace hwY:Q w X3:=hwY
  have hEd:Env (X3.alloc (.cells #[.int .i64 0] 68)).drew:=hE.ofQ (Q.trans hwY bt)
  have hcd:zac (X3.alloc (.cells #[.int .i64 0] 68)).drew X3.heap.size:=Blk.new X3 [.int .i64 0] 68
  rw[hgs]at hcd
  have BD:=(BX.alloc (.cells #[.int .i64 0] 68)).drew
  have ND:=(NY.alloc (.cells #[.int .i64 0] 68)).drew
  have hwd:Q w (X3.alloc (.cells #[.int .i64 0] 68)).drew:=Q.trans hwY bt
  generalize hW:(X3.alloc (.cells #[.int .i64 0] 68))=W1 at *
  clear hW hgs BX
  replace d0:=BD.cell 0
  replace d1:=BD.cell 1
  replace d2:=BD.cell 2
  replace d3:=BD.cell 3
  replace d4:=BD.cell 4
  replace d5:=BD.cell 5
  replace d6:=BD.cell 6
  replace d7:=BD.cell 7
  replace d8:=BD.cell 8
  replace d9:=BD.cell 9
  replace d10:=BD.cell 10
  simp only[zs4,zs5]at d0 d1 d2 d3 d4 d5 d6 d7 d8 d9 d10
  replace lBD:=BD.lt
  replace e0:=ND.cell 0
  replace e1:=ND.cell 1
  replace e2:=ND.cell 2
  replace e3:=ND.cell 3
  replace e4:=ND.cell 4
  replace e5:=ND.cell 5
  replace e6:=ND.cell 6
  replace e7:=ND.cell 7
  replace e8:=ND.cell 8
  replace e9:=ND.cell 9
  replace e10:=ND.cell 10
  simp only[zs4,zs5]at e0 e1 e2 e3 e4 e5 e6 e7 e8 e9 e10
  replace lND:=ND.lt
  refine RF.zm (ρ:=zph W1.drew.heap.size) 10 (by kernel_rfl) (by kernel_rfl) rfl ?_
  refine RF.svp 0 ?_
  refine RF.svq 1 rfl (by intro w' hq;have hc0:=za (hq (Nat.le_refl _)) d0;have hc1:=za (hq (Nat.le_refl _)) d1;have hc2:=za (hq (Nat.le_refl _)) d2;have hc3:=za (hq (Nat.le_refl _)) d3;have hc4:=za (hq (Nat.le_refl _)) d4;have hc5:=za (hq (Nat.le_refl _)) d5;have hc6:=za (hq (Nat.le_refl _)) d6;have hc7:=za (hq (Nat.le_refl _)) d7;have hc8:=za (hq (Nat.le_refl _)) d8;have hc9:=za (hq (Nat.le_refl _)) d9;have hc10:=za (hq (Nat.le_refl _)) d10;go_simp;try with_reducible rfl) ?_
  refine RF.ze (i:=2) (v:=_) rfl rfl (by kernel_rfl) (by kernel_rfl) (fun _ _ _ h=>h) (by rfl) ?_ (fun w' hq=>HD.out _ w' (hEd.ofQ (hq (Nat.le_refl _))) (hcd.keep (hq (Nat.le_refl _)))) ?_
  ·(intro w' hq;go_simp;try with_reducible rfl)
  simp only[Act.put,zs1,zs2,zs3]
  refine RF.svp 3 ?_
  refine RF.svq 4 rfl (by intro w' hq;have hc0:=za (hq (Nat.le_refl _)) e0;have hc1:=za (hq (Nat.le_refl _)) e1;have hc2:=za (hq (Nat.le_refl _)) e2;have hc3:=za (hq (Nat.le_refl _)) e3;have hc4:=za (hq (Nat.le_refl _)) e4;have hc5:=za (hq (Nat.le_refl _)) e5;have hc6:=za (hq (Nat.le_refl _)) e6;have hc7:=za (hq (Nat.le_refl _)) e7;have hc8:=za (hq (Nat.le_refl _)) e8;have hc9:=za (hq (Nat.le_refl _)) e9;have hc10:=za (hq (Nat.le_refl _)) e10;go_simp;try with_reducible rfl) ?_
  refine RF.ze (i:=5) (v:=_) rfl rfl (by kernel_rfl) (by kernel_rfl) (fun _ _ _ h=>h) (by rfl) ?_ (fun w' hq=>HD2.out _ w' (hEd.ofQ (hq (Nat.le_refl _))) (hcd.keep (hq (Nat.le_refl _)))) ?_
  ·(intro w' hq;go_simp;try with_reducible rfl)
  simp only[Act.put,zs1,zs2,zs3]
  refine RF.zdn (i:=6) (j:=7) (.cells #[.string ⟨#[]⟩,.string ⟨#[]⟩,.string ⟨#[]⟩] 29) (.cells #[.string ⟨#[]⟩,.string ⟨#[]⟩,.string ⟨#[]⟩] 29) rfl rfl rfl rfl (by kernel_rfl) (by rfl) (by rfl) (fun w' hq=>?_) (fun w' hq=>?_) (fun w1 hq1=>?_) (fun w1 hq1=>?_)
  ·go_simp;try with_reducible rfl
  ·go_simp;try with_reducible rfl
  case' _ =>
   simp only[Act.put,zs1,zs2,zs3]
   refine RF.zae (i:=7) (.cells #[.string ⟨#[]⟩,.string ⟨#[]⟩,.string ⟨#[]⟩] 29) rfl rfl (by kernel_rfl) (by rfl) (fun w' hq=>by go_simp;try with_reducible rfl) (fun w2 hq2=>?_)
   simp only[Act.put,zs1,zs2,zs3]
   have hT:=((Blk.new w1 [.string ⟨#[]⟩,.string ⟨#[]⟩,.string ⟨#[]⟩] 29).keep hq2 (by simp)).alloc (.cells #[.string ⟨#[]⟩,.string ⟨#[]⟩,.string ⟨#[]⟩] 29)
   have hU:=Blk.new w2 [.string ⟨#[]⟩,.string ⟨#[]⟩,.string ⟨#[]⟩] 29
   have hq6:Q W1.drew (w2.alloc (.cells #[.string ⟨#[]⟩,.string ⟨#[]⟩,.string ⟨#[]⟩] 29)):=Q.trans hq1 (Q.trans ((Below.refl _ w1).alloc (Nat.le_refl _) (.cells #[.string ⟨#[]⟩,.string ⟨#[]⟩,.string ⟨#[]⟩] 29)) (Q.trans hq2 ((Below.refl _ w2).alloc (Nat.le_refl _) (.cells #[.string ⟨#[]⟩,.string ⟨#[]⟩,.string ⟨#[]⟩] 29))))
   have hz:=hq2.size
   rw[World.size_alloc]at hz
   have hbp:W1.drew.heap.size≤w1.heap.size:=by have:=hq1.size;omega
   have hbq:W1.drew.heap.size≤w2.heap.size:=by have:=hq1.size;omega
   have hpq:w1.heap.size≠w2.heap.size:=by omega
   generalize w2.alloc _=W6 at *
   generalize w1.heap.size=p at *
   generalize w2.heap.size=q at *
   clear hz hq1 hq2
  rotate_left
  case' _ =>
   simp only[Act.put,zs1,zs2,zs3]
   refine RF.zae (i:=6) (.cells #[.string ⟨#[]⟩,.string ⟨#[]⟩,.string ⟨#[]⟩] 29) rfl rfl (by kernel_rfl) (by rfl) (fun w' hq=>by go_simp;try with_reducible rfl) (fun w2 hq2=>?_)
   simp only[Act.put,zs1,zs2,zs3]
   have hU:=((Blk.new w1 [.string ⟨#[]⟩,.string ⟨#[]⟩,.string ⟨#[]⟩] 29).keep hq2 (by simp)).alloc (.cells #[.string ⟨#[]⟩,.string ⟨#[]⟩,.string ⟨#[]⟩] 29)
   have hT:=Blk.new w2 [.string ⟨#[]⟩,.string ⟨#[]⟩,.string ⟨#[]⟩] 29
   have hq6:Q W1.drew (w2.alloc (.cells #[.string ⟨#[]⟩,.string ⟨#[]⟩,.string ⟨#[]⟩] 29)):=Q.trans hq1 (Q.trans ((Below.refl _ w1).alloc (Nat.le_refl _) (.cells #[.string ⟨#[]⟩,.string ⟨#[]⟩,.string ⟨#[]⟩] 29)) (Q.trans hq2 ((Below.refl _ w2).alloc (Nat.le_refl _) (.cells #[.string ⟨#[]⟩,.string ⟨#[]⟩,.string ⟨#[]⟩] 29))))
   have hz:=hq2.size
   rw[World.size_alloc]at hz
   have hbp:W1.drew.heap.size≤w2.heap.size:=by have:=hq1.size;omega
   have hbq:W1.drew.heap.size≤w1.heap.size:=by have:=hq1.size;omega
   have hpq:w2.heap.size≠w1.heap.size:=by omega
   generalize w2.alloc _=W6 at *
   generalize w2.heap.size=p at *
   generalize w1.heap.size=q at *
   clear hz hq1 hq2
  all_goals
   refine RF.zan (i:=8) (fun w'=>((w'.setCell ⟨p,0,none⟩ (.string ⟨UX.toArray⟩)).setCell ⟨p,1,none⟩ (.string ⟨UY.toArray⟩)).setCell ⟨p,2,none⟩ (.string ⟨UZ.toArray⟩)) rfl rfl (by kernel_rfl) (by rfl) (fun w' hq=>?_) (fun w'=>zim hbp w') (fun w7 hq7=>?_)
   ·have hc:=hT.keep hq hT.lt
    have e0:=hc.cell
    have f0:=hc.frozen
    go_simp;try with_reducible rfl
   simp only[Act.put]
   have hT7:=(((hT.keep hq7 hT.lt).set 0 (.string ⟨UX.toArray⟩)).set 1 (.string ⟨UY.toArray⟩)).set 2 (.string ⟨UZ.toArray⟩)
   have hU7:=(((hU.keep hq7 hU.lt).setOther hpq 0 (.string ⟨UX.toArray⟩)).setOther hpq 1 (.string ⟨UY.toArray⟩)).setOther hpq 2 (.string ⟨UZ.toArray⟩)
   simp only[List.set_cons_zero,List.set_cons_succ]at hT7
   have hl7:Below W1.drew.heap.size W1.drew (((w7.setCell ⟨p,0,none⟩ (.string ⟨UX.toArray⟩)).setCell ⟨p,1,none⟩ (.string ⟨UY.toArray⟩)).setCell ⟨p,2,none⟩ (.string ⟨UZ.toArray⟩)):=(((Q.trans hq6 hq7).setCell (p:=⟨p,0,none⟩) hbp _).setCell (p:=⟨p,1,none⟩) hbp _).setCell (p:=⟨p,2,none⟩) hbp _
   clear hT hU hq6 hq7
   generalize ((w7.setCell ⟨p,0,none⟩ (.string ⟨UX.toArray⟩)).setCell ⟨p,1,none⟩ (.string ⟨UY.toArray⟩)).setCell ⟨p,2,none⟩ (.string ⟨UZ.toArray⟩)=w8 at *
   refine RF.zan (i:=9) (fun w'=>((w'.setCell ⟨q,0,none⟩ (.string ⟨VX.toArray⟩)).setCell ⟨q,1,none⟩ (.string ⟨VY.toArray⟩)).setCell ⟨q,2,none⟩ (.string ⟨VZ.toArray⟩)) rfl rfl (by kernel_rfl) (by rfl) (fun w' hq=>?_) (fun w'=>zim hbq w') (fun w9 hq9=>?_)
   ·have hc:=hU7.keep hq hU7.lt
    have e0:=hc.cell
    have f0:=hc.frozen
    go_simp;try with_reducible rfl
   simp only[Act.put]
   have hT9:=(((hT7.keep hq9 hT7.lt).setOther (Ne.symm hpq) 0 (.string ⟨VX.toArray⟩)).setOther (Ne.symm hpq) 1 (.string ⟨VY.toArray⟩)).setOther (Ne.symm hpq) 2 (.string ⟨VZ.toArray⟩)
   have hU9:=(((hU7.keep hq9 hU7.lt).set 0 (.string ⟨VX.toArray⟩)).set 1 (.string ⟨VY.toArray⟩)).set 2 (.string ⟨VZ.toArray⟩)
   simp only[List.set_cons_zero,List.set_cons_succ]at hU9
   have hl9:Below W1.drew.heap.size W1.drew (((w9.setCell ⟨q,0,none⟩ (.string ⟨VX.toArray⟩)).setCell ⟨q,1,none⟩ (.string ⟨VY.toArray⟩)).setCell ⟨q,2,none⟩ (.string ⟨VZ.toArray⟩)):=(((Below.trans hl7 (hq9.mono hl7.size)).setCell (p:=⟨q,0,none⟩) hbq _).setCell (p:=⟨q,1,none⟩) hbq _).setCell (p:=⟨q,2,none⟩) hbq _
   clear hT7 hU7 hl7 hq9
   generalize ((w9.setCell ⟨q,0,none⟩ (.string ⟨VX.toArray⟩)).setCell ⟨q,1,none⟩ (.string ⟨VY.toArray⟩)).setCell ⟨q,2,none⟩ (.string ⟨VZ.toArray⟩)=w10 at *
   refine RF.zi (by kernel_rfl) (fun w3 hq3=>?_)
   simp only[List.drop_succ_cons,List.drop_nil]
   have hT3:=hT9.keep hq3 hT9.lt
   have hU3:=hU9.keep hq3 hU9.lt
   have hqq:Q W1.drew w3:=Below.trans hl9 (hq3.mono hl9.size)
   have hw3:Q w w3:=Q.trans hwd hqq
   have hE3:=hE.ofQ hw3
   have hc3:=hcd.keep hqq
   clear hT9 hU9 hl9 hq3 hqq hcd hEd hwd BD ND d0 d1 d2 d3 d4 d5 d6 d7 d8 d9 d10 e0 e1 e2 e3 e4 e5 e6 e7 e8 e9 e10 lBD lND HD2 hbp hbq hpq
   have hQ0:=Q.refl w3
   replace t0:=hT3.cell 0
   replace t1:=hT3.cell 1
   replace t2:=hT3.cell 2
   simp only[zs4,zs5]at t0 t1 t2
   replace lhT3:=hT3.lt
   replace v0:=hU3.cell 0
   replace v1:=hU3.cell 1
   replace v2:=hU3.cell 2
   simp only[zs4,zs5]at v0 v1 v2
   replace lhU3:=hU3.lt
   go_wp2_with fail
   refine cx (HCO.out _ _ (hE3.ofQ bt) hc3) fun L1 hq1=>?_
   have hs1:Q w3 L1:=Q.trans bt hq1
   have hQ1:Q w3 L1:=Q.trans hQ0 hs1
   replace hT3:=hT3.keep hs1 hT3.lt
   replace t0:=hT3.cell 0
   replace t1:=hT3.cell 1
   replace t2:=hT3.cell 2
   simp only[zs4,zs5]at t0 t1 t2
   replace lhT3:=hT3.lt
   replace hU3:=hU3.keep hs1 hU3.lt
   replace v0:=hU3.cell 0
   replace v1:=hU3.cell 1
   replace v2:=hU3.cell 2
   simp only[zs4,zs5]at v0 v1 v2
   replace lhU3:=hU3.lt
   have hc4:=hc3.keep hs1
   clear hc3 HCO
   go_wp2_with fail
   refine(HS.out _).mono ?_
   rintro e y⟨rfl,rfl⟩
   have BC:=hc4
   unfold zac at BC
   replace c0:=BC.cell 0
   simp only[List.getElem?_cons_zero]at c0
   replace lBC:=BC.lt
   have hw4:=Q.trans hw3 hQ1
   cases hz:(AC == [48])with
   | true =>
    have hco:=LH (H0.out hz)
    clear H0 HN HSH HSU HC2 HM HUU HVV HUV HR
    go_wp2
    go_ret2
    exact⟨fun h=>absurd h (by decide),fun _ _=>⟨rfl,hw4⟩,fun _ h=>absurd hco.out h⟩
   | false =>
    have hco:=LH (HN.out hz)
    have h1:=LH (HSH.out hco.out)
    have h2:=LH (HSU.out hco.out)
    have h3:=LH (HC2.out hco.out)
    have h4:=LH (HM.out hco.out)
    clear H0 HN HSH HSU HC2 HM HS
    have hQ0:=Q.refl L1
    replace t0:=hT3.cell 0
    replace t1:=hT3.cell 1
    replace t2:=hT3.cell 2
    simp only[zs4,zs5]at t0 t1 t2
    replace lhT3:=hT3.lt
    replace v0:=hU3.cell 0
    replace v1:=hU3.cell 1
    replace v2:=hU3.cell 2
    simp only[zs4,zs5]at v0 v1 v2
    replace lhU3:=hU3.lt
    go_wp2_with fail
    refine cx (h1.out _ _ (hE3.ofQ (Q.trans hs1 bt)) hc4) fun M1 hq1=>?_
    have hs1:Q L1 M1:=Q.trans bt hq1
    have hQ1:Q L1 M1:=Q.trans hQ0 hs1
    replace hT3:=hT3.keep hs1 hT3.lt
    replace t0:=hT3.cell 0
    replace t1:=hT3.cell 1
    replace t2:=hT3.cell 2
    simp only[zs4,zs5]at t0 t1 t2
    replace lhT3:=hT3.lt
    replace hU3:=hU3.keep hs1 hU3.lt
    replace v0:=hU3.cell 0
    replace v1:=hU3.cell 1
    replace v2:=hU3.cell 2
    simp only[zs4,zs5]at v0 v1 v2
    replace lhU3:=hU3.lt
    have hc5:=hc4.keep hs1
    have hw5:=Q.trans hw4 hs1
    clear h1 hc4 BC c0 lBC hE3
    go_wp2_with fail
    have hEd:Env M1.drew:=hE.ofQ (Q.trans hw5 bt)
    have hcd:zac M1.drew gc:=hc5.keep bt
    have hwd:Q w M1.drew:=Q.trans hw5 bt
    refine zm 27 rfl (by kernel_rfl) rfl ?_
    refine svp 0 ?_
    refine svp 1 ?_
    refine svp 2 ?_
    refine svp 3 ?_
    refine svq 4 rfl (by intro w' hq;have hc0:=za hq t0;have hc1:=za hq t1;have hc2:=za hq t2;go_simp;try with_reducible rfl) ?_
    refine svq 5 rfl (by intro w' hq;have hc0:=za hq t0;have hc1:=za hq t1;have hc2:=za hq t2;go_simp;try with_reducible rfl) ?_
    refine ze (i:=6) (v:=_) rfl rfl (by kernel_rfl) (by kernel_rfl) (fun _ _ _ h=>h) (by rfl) ?_ (fun w' hq=>HUU.out _ w' (hEd.ofQ hq) (hcd.keep hq)) ?_
    ·(intro w' hq;go_simp;try with_reducible rfl)
    simp only[Act.put,zs1,zs2,zs3]
    refine svp 7 ?_
    refine svq 8 rfl (by intro w' hq;have hc0:=za hq v0;have hc1:=za hq v1;have hc2:=za hq v2;go_simp;try with_reducible rfl) ?_
    refine svq 9 rfl (by intro w' hq;have hc0:=za hq v0;have hc1:=za hq v1;have hc2:=za hq v2;go_simp;try with_reducible rfl) ?_
    refine ze (i:=10) (v:=_) rfl rfl (by kernel_rfl) (by kernel_rfl) (fun _ _ _ h=>h) (by rfl) ?_ (fun w' hq=>HVV.out _ w' (hEd.ofQ hq) (hcd.keep hq)) ?_
    ·(intro w' hq;go_simp;try with_reducible rfl)
    simp only[Act.put,zs1,zs2,zs3]
    refine ze (i:=11) (v:=_) rfl rfl (by kernel_rfl) (by kernel_rfl) (fun _ _ _ h=>h) (by rfl) ?_ (fun w' hq=>HR.out _ w' (hEd.ofQ hq) (hcd.keep hq)) ?_
    ·(intro w' hq;go_simp;try with_reducible rfl)
    simp only[Act.put,zs1,zs2,zs3]
    refine svp 12 ?_
    refine svp 13 ?_
    refine svp 14 ?_
    refine svp 15 ?_
    refine svp 16 ?_
    refine svq 17 rfl (by intro w' hq;have hc0:=za hq t0;have hc1:=za hq t1;have hc2:=za hq t2;go_simp;try with_reducible rfl) ?_
    refine svq 18 rfl (by intro w' hq;have hc0:=za hq v0;have hc1:=za hq v1;have hc2:=za hq v2;go_simp;try with_reducible rfl) ?_
    refine ze (i:=19) (v:=_) rfl rfl (by kernel_rfl) (by kernel_rfl) (fun _ _ _ h=>h) (by rfl) ?_ (fun w' hq=>HUV.out _ w' (hEd.ofQ hq) (hcd.keep hq)) ?_
    ·(intro w' hq;go_simp;try with_reducible rfl)
    simp only[Act.put,zs1,zs2,zs3]
    refine ze (i:=20) (v:=_) rfl rfl (by kernel_rfl) (by kernel_rfl) (fun _ _ _ h=>h) (by rfl) ?_ (fun w' hq=>h2.out _ w' (hEd.ofQ hq) (hcd.keep hq)) ?_
    ·(intro w' hq;go_simp;try with_reducible rfl)
    simp only[Act.put,zs1,zs2,zs3]
    refine ze (i:=21) (v:=_) rfl rfl (by kernel_rfl) (by kernel_rfl) (fun _ _ _ h=>h) (by rfl) ?_ (fun w' hq=>h3.out _ w' (hEd.ofQ hq) (hcd.keep hq)) ?_
    ·(intro w' hq;go_simp;try with_reducible rfl)
    simp only[Act.put,zs1,zs2,zs3]
    refine svp 22 ?_
    refine zaX (i:=23) (fun w'=>.slice (some ⟨w'.heap.size,0,none⟩) 2 2) (.cells #[.string ⟨SH.toArray⟩,.string ⟨RR.toArray⟩,.string ⟨C2.toArray⟩,.string ⟨#[49]⟩] 42) rfl rfl (by kernel_rfl) (by rfl) (fun w' hq=>by go_simp;try with_reducible rfl) (fun w2 hq2=>?_)
    simp only[Act.put,zs1,zs2,zs3]
    have BT2:=Blk.new w2 [.string ⟨SH.toArray⟩,.string ⟨RR.toArray⟩,.string ⟨C2.toArray⟩,.string ⟨#[49]⟩] 42
    have hqm:Q M1.drew (w2.alloc (.cells #[.string ⟨SH.toArray⟩,.string ⟨RR.toArray⟩,.string ⟨C2.toArray⟩,.string ⟨#[49]⟩] 42)):=Q.trans hq2 bt
    have hcm:=hcd.keep hqm
    have hwm:=Q.trans hwd hqm
    clear HUU HVV HR HUV h2 h3 hT3 hU3 t0 t1 t2 v0 v1 v2 lhT3 lhU3 hcd hEd
    refine zP (i:=24) rfl rfl (by kernel_rfl) (by rfl) (fun w' hq=>by go_simp;try with_reducible rfl) (fun w6 hq6=>(h4.out _ _ w6 (hE.ofQ (Q.trans hwm hq6)) (hcm.keep hq6) (TSl.four (BT2.keep hq6 BT2.lt) 2)).mono ?_)
    intro e y h
    obtain⟨v',E,rfl,hq7,h⟩:=h
    have H5:=LH h
    have hws:=Q.trans hwm hq6
    have hsz:=hws.size
    clear h h4
    refine⟨_,rfl,hq7,?_⟩
    simp only[Act.put,zs1,zs2,zs3]
    refine svp 25 ?_
    refine svp 26 ?_
    refine zi (by kernel_rfl) (fun w9 hq9=>?_)
    simp only[List.drop_succ_cons,List.drop_zero]
    have hw9:=Q.trans hws (Q.trans hq7 hq9)
    go_wp2
    go_ret2
    refine⟨fun h=>absurd h (by decide),fun _ h=>absurd h hco.out,fun _ _=>⟨_,_,rfl,hw9,?_⟩⟩
    rcases H5.out with h | ⟨e1,C,e2,e3⟩
    ·exact .inl h
    ·exact .inr ⟨e1,C,e2,Joins.ownsRow_le (e3.keep hq9) hsz⟩
end Go.Proofs.YtagkadlaeeoblaaGreatDoor
