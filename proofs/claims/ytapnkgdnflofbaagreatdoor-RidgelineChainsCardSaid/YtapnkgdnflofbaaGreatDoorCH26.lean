/-
  Walks of package ridgeline: what a plan has for a line.; Walks of package ridgeline: a line on the plane of a side.; Walks of package ridgeline: a hip's shape.; Walks of package ridgeline: a hip fits.; Walks of package ridgeline: how long a line is.
-/
import Derived.Test.YtapnkgdnflofbaaGreatDoorCH12
import Derived.Test.YtapnkgdnflofbaaGreatDoorCH05
import Derived.Test.YtapnkgdnflofbaaGreatDoorCH25
import Derived.Test.YtapnkgdnflofbaaGreatDoorCH18
import Derived.Test.YtapnkgdnflofbaaGreatDoorCH23
import Derived.Laws.CopyRow
import Derived.Laws.CopyOwn
set_option maxRecDepth 100000
set_option maxHeartbeats 8000000
namespace Go.Proofs.YtapnkgdnflofbaaGreatDoor
section
open Go.RowKit Go.Shelf Kp
attribute [local go_sem] Oper.semAt_some
theorem zoz{W:World}{b:Nat}{x y:Value}(h:Blk W b [x,y] 78)(fn:Func)(m k:Nat)(hf:fn.results=#[.cell m 78,.tmp k])(tmps:Array Value)(u:Value)(hp:tmps.getD m undef=.pointer (some ⟨b,0,none⟩))(hk:tmps.getD k undef=u) :
  (results fn tmps).run Tryz.prog W=.ok (.tuple #[.agg #[x,y],u]) W:=by
 have c0:=h.cell
 simp only[Array.getD_eq_getD_getElem?]at hp hk
 simp[results,hf,go_sem,hp,hk,c0]
theorem zdU{w:World}{b g:Nat}(h:b≠g)(i:Nat)(v:Value):(w.setCell ⟨g,i,none⟩ v).heap[b]? = w.heap[b]?:=by
 have:=h.symm
 simp[World.setCell,Array.getElem?_modify,this]
def zmr(w:World)(R:List (List Sd))(vs vf:Value):Prop:=zba 7 sdC w vs R.flatten∧∃ B,w.ownsRow B 113 5 vf R.flatten.length (rowOf frC (za2 R))
theorem zmr.keep{w w':World}{R:List (List Sd)}{vs vf:Value}(h:zmr w R vs vf)(hq:Q w w'):zmr w' R vs vf:=by
 obtain⟨h1,B,h2⟩:=h
 exact⟨h1.keep hq,B,zi h2 hq⟩
theorem zmr.set{w:World}{R:List (List Sd)}{vs vf:Value}(h:zmr w R vs vf){g:Nat}{x y:Value}(hb:Blk w g [x,y] 78)(hx:∀ n:Int,x≠.int .i64 n)(hy:∀ n:Int,y≠.int .i64 n)(i:Nat)(u:Value):zmr (w.setCell ⟨g,i,none⟩ u) R vs vf:=by
 obtain⟨⟨a,cap,rfl,h1⟩,B,h2⟩:=h
 refine⟨⟨a,cap,rfl,fun k hk=>?_⟩,B,zbf h2 fun b hb2=>?_⟩
 ·obtain⟨b,o,rfl,hlt,hc⟩:=h1 k hk
  have hne:b≠g:=by
   rintro rfl
   have h0:w.cell? ⟨b,o+k*7+0,none⟩=some (.int .i64 _):=hc 0 _ rfl
   rw[hb.cell]at h0
   match o+k*7+0,h0 with
   | 0,h0=>exact hx _ (Option.some.inj h0)
   | 1,h0=>exact hy _ (Option.some.inj h0)
   | n+2,h0=>simp at h0
  refine⟨b,o,rfl,by rw[World.size_setCell];exact hlt,fun j z hz=>?_⟩
  rw[World.cell?_of_block (w:=w) (zdU hne _ _)]
  exact hc j z hz
 ·obtain⟨-,cur,hcur⟩:=zaN h2 hb2
  have hne:b≠g:=by
   rintro rfl
   unfold Blk at hb
   rw[hb]at hcur
   simp at hcur
  exact zdU hne _ _
theorem zmr.slices{w:World}{R:List (List Sd)}{vs vf:Value}(h:zmr w R vs vf):∃ a m c b k d,vs=.slice a m c∧vf=.slice b k d:=by
 obtain⟨⟨a,cap,rfl,-⟩,B,h2⟩:=h
 rcases h2.2 with⟨rfl,-⟩|⟨g,cap',cur,rfl,-⟩
 ·exact⟨_,_,_,none,0,0,rfl,rfl⟩
 ·exact⟨_,_,_,_,_,_,rfl,rfl⟩
theorem zjG(R:List (List Sd))(hp:zdb R=0)(hlen:R.length≤1000)(x:Lv)(ok:LvOk x)(hl:x.l<R.flatten.length)(hr:x.r<R.flatten.length)(a:Option Addr)(nn cp:Nat)(w:World)(hE:Env w)(hS:za9 w)(hv:zi9 w (.slice a nn cp) R) :
  Calls Tryz.prog 36 #[.agg #[.slice a nn cp],.agg x.c.toArray] w fun e w'=>∃ vs vf,e=.returned (.tuple #[.agg #[vs,vf],.int .i64 0])∧Q w w'∧zmr w' R vs vf:=by
 have okp:=zgc hp
 have HV:=LH hv
 have HCK:=LH (fun W hW hq=>zdZ x ok W hW (hS.q (w':=W) hq))
 have HS1:Hid (∀ W,Q w W→Calls Tryz.prog 60 #[.agg #[.slice a nn cp]] W fun e w'=>∃ v',e=.returned (.tuple #[v',.int .i64 0])∧Q W w'∧zba 7 sdC w' v' R.flatten):=LH (fun W hq=>zoH R hp hlen _ W (HV.out.keep hq))
 have HA:Hid (∀ W,Env W→Q w W→Calls Tryz.prog 61 #[.agg #[.slice a nn cp]] W fun e w'=>∃ v',e=.returned (.tuple #[v',.int .i64 0])∧w'.ownsRow W.heap.size 113 5 v' R.flatten.length (rowOf frC (za2 R))∧Q W w'):=LH (fun W hW hq=>zqy R hp hlen _ W hW (HV.out.keep hq))
 have h24:R.flatten.length≤24:=by rw[count_flatten];exact okp.le
 have hn0:0<R.flatten.length:=by rw[count_flatten];exact okp.pos
 have hm:=fun w=>zie x.l x.r w
 have hmx:¬ (R.flatten.length:Int)≤max x.l x.r:=by omega
 clear hS hp okp hv HV hl hr ok
 obtain⟨k,f,t,l,r⟩:=x
 unfold Lv.c at *
 simp only at *
 generalize max l r=ma at *
 generalize ze f.x=X at *
 generalize ze f.y=Y at *
 generalize ze f.z=Z at *
 generalize ze t.x=X' at *
 generalize ze t.y=Y' at *
 generalize ze t.z=Z' at *
 generalize hSL:R.flatten.length=n at *
 obtain⟨W0,hW0⟩:∃ W0,((w.alloc (.cells #[.slice a nn cp] 48)).alloc (.cells #[.int .i64 k,.string ⟨X.toArray⟩,.string ⟨Y.toArray⟩,.string ⟨Z.toArray⟩,.string ⟨X'.toArray⟩,.string ⟨Y'.toArray⟩,.string ⟨Z'.toArray⟩,.int .i64 l,.int .i64 r] 34)).alloc (.cells #[.slice none 0 0,.slice none 0 0] 78)=W0:=⟨_,rfl⟩
 have hq0:Q w W0:=by rw[← hW0];exact bt
 have BP:Blk W0 w.heap.size [.slice a nn cp] 48:=by rw[← hW0];exact((Blk.new w _ _).alloc _).alloc _
 have BL:Blk W0 (w.heap.size+1) [.int .i64 k,.string ⟨X.toArray⟩,.string ⟨Y.toArray⟩,.string ⟨Z.toArray⟩,.string ⟨X'.toArray⟩,.string ⟨Y'.toArray⟩,.string ⟨Z'.toArray⟩,.int .i64 l,.int .i64 r] 34:=by rw[← hW0];exact(Blk.new1 w _ _ _).alloc _
 have BG:Blk W0 (w.heap.size+2) [.slice none 0 0,.slice none 0 0] 78:=by rw[← hW0];exact Blk.new2 w _ _ _ _
 have hQ0:=Q.refl W0
 replace p0:=BP.cell
 replace lBP:=BP.lt
 replace n0:=BL.cell
 replace lBL:=BL.lt
 replace g0:=BG.cell
 replace lBG:=BG.lt
 go_enter Tryz.func36,Tryz.ntmps36
 go_wp2_with fail
 refine cx (HCK.out _ (hE.ofQ hq0) hq0) fun G1 hq1=>?_
 have hs1:Q W0 G1:=Q.trans bt hq1
 have hQ1:Q W0 G1:=Q.trans hQ0 hs1
 replace BP:=BP.keep hs1 BP.lt
 replace p0:=BP.cell
 replace lBP:=BP.lt
 replace BL:=BL.keep hs1 BL.lt
 replace n0:=BL.cell
 replace lBL:=BL.lt
 replace BG:=BG.keep hs1 BG.lt
 replace g0:=BG.cell
 replace lBG:=BG.lt
 clear hW0 HCK
 go_wp2_with fail
 refine(HS1.out _ (Q.trans hq0 hQ1)).mono ?_
 rintro e G2⟨vs,rfl,hq2,hrow⟩
 have hs2:Q G1 G2:=Q.trans bt hq2
 have hQ2:Q W0 G2:=Q.trans hQ1 hs2
 replace BP:=BP.keep hs2 BP.lt
 replace p0:=BP.cell
 replace lBP:=BP.lt
 replace BL:=BL.keep hs2 BL.lt
 replace n0:=BL.cell
 replace lBL:=BL.lt
 replace BG:=BG.keep hs2 BG.lt
 replace g0:=BG.cell
 replace lBG:=BG.lt
 obtain⟨ra,rcap,rfl,hrc⟩:=id hrow
 go_wp2_with fail
 refine(HA.out _ (hE.ofQ (Q.trans hq0 hQ2)) (Q.trans hq0 hQ2)).mono ?_
 rintro e G3⟨vf,rfl,hown,hq3⟩
 have hs3:Q G2 G3:=Q.trans bt hq3
 have hQ3:Q W0 G3:=Q.trans hQ2 hs3
 replace BP:=BP.keep hs3 BP.lt
 replace p0:=BP.cell
 replace lBP:=BP.lt
 replace BL:=BL.keep hs3 BL.lt
 replace n0:=BL.cell
 replace lBL:=BL.lt
 replace BG:=BG.keep hs3 BG.lt
 replace g0:=BG.cell
 replace lBG:=BG.lt
 have hgr:zmr G3 R (.slice ra R.flatten.length rcap) vf:=⟨hrow.keep hq3,_,by rw[hSL];exact hown⟩
 rw[hSL]at hgr
 have hrl:0<n:=hn0
 obtain⟨fg,fcap,rfl⟩:=zki hown hrl
 have zf:=BG.frozen
 have hw3:Q w G3:=Q.trans hq0 hQ3
 have G1':=hgr.set BG (fun _ h=>by cases h) (fun _ h=>by cases h) 0 (.slice ra n rcap)
 have B1':=BG.set 0 (.slice ra n rcap)
 simp only[List.set_cons_zero]at B1'
 have G2':=G1'.set B1' (fun _ h=>by cases h) (fun _ h=>by cases h) 1 (.slice (some ⟨fg,0,none⟩) n fcap)
 have B2':=B1'.set 1 (.slice (some ⟨fg,0,none⟩) n fcap)
 simp only[List.set_cons_zero,List.set_cons_succ]at B2'
 have hQe:=(hw3.setCell (p:=⟨w.heap.size+2,0,none⟩) (by simp) (.slice ra n rcap)).setCell (p:=⟨w.heap.size+2,1,none⟩) (by simp) (.slice (some ⟨fg,0,none⟩) n fcap)
 clear hrow hrc hown hgr G1' B1'
 go_wp2
 refine bodyPost_ret (zoz B2' Tryz.f36 4 5 rfl _ _ rfl rfl) rfl ⟨_,_,rfl,hQe,G2'⟩
theorem zmr.front{w:World}{R:List (List Sd)}{vs vf:Value}(h:zmr w R vs vf){i:Nat}{F:Fr}(hF:(za2 R)[i]? = some F)(hl:(za2 R).length=R.flatten.length) :
  ∃ g cap,vf=.slice (some ⟨g,0,none⟩) R.flatten.length cap∧∀ j u,j<5→(frC F)[j]? = some u→w.cell? ⟨g,i*5+j,none⟩=some u:=by
 have hfl:i<(za2 R).length:=(List.getElem?_eq_some_iff.1 hF).1
 have hFe:(za2 R)[i]=F:=(List.getElem?_eq_some_iff.1 hF).2
 obtain⟨-,B,hown⟩:=h
 obtain⟨fg,fcap,rfl⟩:=zki hown (by omega)
 refine⟨_,_,rfl,fun j u hj hu=>?_⟩
 have:=hown.cells rfl (i*5+j) u (by rw[zc0 zsR _ i hfl j hj,hFe];exact hu)
 rw[Addr.add_lit,Nat.zero_add]at this
 exact this
theorem ztD(R:List (List Sd))(i:Nat)(hi:i<R.flatten.length)(F:Fr)(hF:(za2 R)[i]? = some F)(hl:(za2 R).length=R.flatten.length)(okF:FrOk F)(hs:F.speed≠0)(A B C:Rat)(hp:ztk F=[.string ⟨(ze A).toArray⟩,.string ⟨(ze B).toArray⟩,.string ⟨(ze C).toArray⟩])(bA:Bd 5 A)(bB:Bd 5 B)(bC:Bd 10 C)
  (x:Lv)(bf:B3 5 x.f)(bt:B3 5 x.t)(e1:A*x.f.x+B*x.f.y+C=x.f.z)(e2:A*x.t.x+B*x.t.y+C=x.t.z)(vs vf:Value)(w:World)(hE:Env w)(hG:zmr w R vs vf) :
  CR 37 #[.agg #[vs,vf],.int .i64 i,.agg x.c.toArray] w (.tuple #[.bool true,.int .i64 0]):=by
 have hpf:=fun w hw=>ziY F okF hs w hw
 rw[hp]at hpf
 have HP:=LH hpf
 have H1:=znK A B C x.f.x x.f.y bA bB bC bf.1 bf.2.1
 have H2:=znK A B C x.t.x x.t.y bA bB bC bt.1 bt.2.1
 rw[e1]at H1
 rw[e2]at H2
 have HA1:=LH H1
 have HA2:=LH H2
 have HPf:=LH (fun w=>zdY (ze x.f.x) (ze x.f.y) (ze x.f.z) w)
 have HPt:=LH (fun w=>zdY (ze x.t.x) (ze x.t.y) (ze x.t.z) w)
 obtain⟨g,cap,rfl,hfc⟩:=hG.front hF hl
 obtain⟨sa,sn,sc,-,-,-,rfl,-⟩:=hG.slices
 have hn0:(0:Int)≤i:=by omega
 have hln:(i:Int)<R.flatten.length:=by omega
 unfold frC at hfc HP
 have f0:=hfc 0 _ (by decide) rfl
 have f1:=hfc 1 _ (by decide) rfl
 have f2:=hfc 2 _ (by decide) rfl
 have f3:=hfc 3 _ (by decide) rfl
 have f4:=hfc 4 _ (by decide) rfl
 rw[Nat.add_zero]at f0
 have hgl:g<w.heap.size:=World.block_lt_of_cell? _ _ f0
 clear hfc hG hF hl okF hs hp bA bB bC bf bt e1 e2 hpf H1 H2
 generalize R.flatten.length=n at *
 obtain⟨k,f,t,l,r⟩:=x
 unfold Lv.c
 simp only at *
 generalize ze A=SA at *
 generalize ze B=SB at *
 generalize ze C=SC at *
 generalize ze f.x=X at *
 generalize ze f.y=Y at *
 generalize ze f.z=Z at *
 generalize ze t.x=X' at *
 generalize ze t.y=Y' at *
 generalize ze t.z=Z' at *
 obtain⟨W0,hW0⟩:∃ W0,(w.alloc (.cells #[.slice sa sn sc,.slice (some ⟨g,0,none⟩) n cap] 78)).alloc (.cells #[.int .i64 k,.string ⟨X.toArray⟩,.string ⟨Y.toArray⟩,.string ⟨Z.toArray⟩,.string ⟨X'.toArray⟩,.string ⟨Y'.toArray⟩,.string ⟨Z'.toArray⟩,.int .i64 l,.int .i64 r] 34)=W0:=⟨_,rfl⟩
 have hq0:Q w W0:=by rw[← hW0];exact bt
 have BG:Blk W0 w.heap.size [.slice sa sn sc,.slice (some ⟨g,0,none⟩) n cap] 78:=by rw[← hW0];exact(Blk.new w _ _).alloc _
 have BL:Blk W0 (w.heap.size+1) [.int .i64 k,.string ⟨X.toArray⟩,.string ⟨Y.toArray⟩,.string ⟨Z.toArray⟩,.string ⟨X'.toArray⟩,.string ⟨Y'.toArray⟩,.string ⟨Z'.toArray⟩,.int .i64 l,.int .i64 r] 34:=by rw[← hW0];exact Blk.new1 w _ _ _
 rw[← hq0.cell hgl]at f0 f1 f2 f3 f4
 have hQ0:=Q.refl W0
 replace g0:=BG.cell
 replace lBG:=BG.lt
 replace n0:=BL.cell
 replace lBL:=BL.lt
 go_enter Tryz.func37,Tryz.ntmps37
 go_wp2_with fail
 refine cx (HP.out _ (hE.ofQ hq0)) fun G1 hq1=>?_
 have hs1:Q W0 G1:=Q.trans bt hq1
 have hQ1:Q W0 G1:=Q.trans hQ0 hs1
 replace BG:=BG.keep hs1 BG.lt
 replace g0:=BG.cell
 replace lBG:=BG.lt
 replace BL:=BL.keep hs1 BL.lt
 replace n0:=BL.cell
 replace lBL:=BL.lt
 clear hW0 HP
 go_wp2
 refine wp_loop_rounds 3 ?_
 rw[rounds_succ]
 go_wp2_with fail
 obtain⟨W2,hW2⟩:∃ W2,((G1.alloc (.cells #[.string ⟨SA.toArray⟩,.string ⟨SB.toArray⟩,.string ⟨SC.toArray⟩] 87)).alloc (.cells #[.string ⟨X.toArray⟩,.string ⟨Y.toArray⟩,.string ⟨Z.toArray⟩,.string ⟨X'.toArray⟩,.string ⟨Y'.toArray⟩,.string ⟨Z'.toArray⟩] 32)).alloc (.cells #[.string ⟨X.toArray⟩,.string ⟨Y.toArray⟩,.string ⟨Z.toArray⟩] 32)=W2:=⟨_,rfl⟩
 have hq12:Q G1 W2:=by rw[← hW2];exact bt
 have BP:Blk W2 G1.heap.size [.string ⟨SA.toArray⟩,.string ⟨SB.toArray⟩,.string ⟨SC.toArray⟩] 87:=by rw[← hW2];exact((Blk.new G1 _ _).alloc _).alloc _
 have BA:Blk W2 (G1.heap.size+1) [.string ⟨X.toArray⟩,.string ⟨Y.toArray⟩,.string ⟨Z.toArray⟩,.string ⟨X'.toArray⟩,.string ⟨Y'.toArray⟩,.string ⟨Z'.toArray⟩] 32:=by rw[← hW2];exact(Blk.new1 G1 _ _ _).alloc _
 have BS:Blk W2 (G1.heap.size+2) [.string ⟨X.toArray⟩,.string ⟨Y.toArray⟩,.string ⟨Z.toArray⟩] 32:=by rw[← hW2];exact Blk.new2 G1 _ _ _ _
 rw[hW2]
 clear hW2 f0 f1 f2 f3 f4 BG g0 lBG n0 lBL hq1 hs1 BL
 have hw2:Q w W2:=Q.trans hq0 (Q.trans hQ1 hq12)
 clear hq12 hQ1 hQ0 hgl
 generalize G1.heap.size=gb at *
 have hQ0:=Q.refl W2
 replace p0:=BP.cell 0
 replace p1:=BP.cell 1
 replace p2:=BP.cell 2
 simp only[zs4,zs5]at p0 p1 p2
 replace lBP:=BP.lt
 replace s0:=BS.cell 0
 replace s1:=BS.cell 1
 replace s2:=BS.cell 2
 simp only[zs4,zs5]at s0 s1 s2
 replace lBS:=BS.lt
 have hEd:Env W2.drew:=hE.ofQ (Q.trans hw2 (Below.drew (Q.refl W2)))
 refine zn 9 rfl (by kernel_rfl) rfl ?_
 refine svq 0 rfl (by intro w' hq;have hc0:=za hq p0;have hc1:=za hq p1;have hc2:=za hq p2;go_simp;try with_reducible rfl) ?_
 refine svq 1 rfl (by intro w' hq;have hc0:=za hq s0;have hc1:=za hq s1;have hc2:=za hq s2;go_simp;try with_reducible rfl) ?_
 refine zk (i:=2) (v:=_) rfl rfl (by kernel_rfl) (by kernel_rfl) (fun _ _ _ h=>h) (by rfl) ?_ (fun w' hq=>HPf.out w') ?_
 ·(intro w' hq;go_simp;try with_reducible rfl)
 simp only[Act.put,zs1,zs2,zs3]
 refine zk (i:=3) (v:=_) rfl rfl (by kernel_rfl) (by kernel_rfl) (fun _ _ _ h=>h) (by rfl) ?_ (fun w' hq=>HA1.out w' (hEd.ofQ hq)) ?_
 ·(intro w' hq;go_simp;try with_reducible rfl)
 simp only[Act.put,zs1,zs2,zs3]
 refine svp 4 ?_
 refine svp 5 ?_
 refine svp 6 ?_
 refine svp 7 ?_
 refine svp 8 ?_
 refine zh (by kernel_rfl) (fun W3 hq3=>?_)
 simp only[List.drop_succ_cons,List.drop_zero]
 have hq23:Q W2 W3:=Q.trans (Below.drew (Q.refl W2)) hq3
 have hw3:=Q.trans hw2 hq23
 replace BP:=BP.keep hq23 BP.lt
 replace BA:=BA.keep hq23 BA.lt
 replace BS:=BS.keep hq23 BS.lt
 clear HPf HA1 hEd hq3 hQ0 hw2 hq23 p0 p1 p2 s0 s1 s2 lBP lBS
 have hQ0:=Q.refl W3
 replace s0:=BS.cell 0
 replace s1:=BS.cell 1
 replace s2:=BS.cell 2
 simp only[zs4,zs5]at s0 s1 s2
 replace lBS:=BS.lt
 replace a0:=BA.cell
 replace lBA:=BA.lt
 go_wp2
 rw[rounds_succ]
 go_wp2_with fail
 obtain⟨W4,hW4⟩:∃ W4,W3.alloc (.cells #[.string ⟨X'.toArray⟩,.string ⟨Y'.toArray⟩,.string ⟨Z'.toArray⟩] 32)=W4:=⟨_,rfl⟩
 have hq34:Q W3 W4:=by rw[← hW4];exact bt
 have BT:Blk W4 W3.heap.size [.string ⟨X'.toArray⟩,.string ⟨Y'.toArray⟩,.string ⟨Z'.toArray⟩] 32:=by rw[← hW4];exact Blk.new W3 _ _
 rw[hW4]
 replace BP:=BP.keep hq34 BP.lt
 have hw4:=Q.trans hw3 hq34
 clear hW4 hw3 hq34 s0 s1 s2 a0 lBS lBA BS BA
 generalize W3.heap.size=sb at *
 have hQ0:=Q.refl W4
 replace p0:=BP.cell 0
 replace p1:=BP.cell 1
 replace p2:=BP.cell 2
 simp only[zs4,zs5]at p0 p1 p2
 replace lBP:=BP.lt
 replace s0:=BT.cell 0
 replace s1:=BT.cell 1
 replace s2:=BT.cell 2
 simp only[zs4,zs5]at s0 s1 s2
 replace lBT:=BT.lt
 have hEd:Env W4.drew:=hE.ofQ (Q.trans hw4 (Below.drew (Q.refl W4)))
 refine zn 9 rfl (by kernel_rfl) rfl ?_
 refine svq 0 rfl (by intro w' hq;have hc0:=za hq p0;have hc1:=za hq p1;have hc2:=za hq p2;go_simp;try with_reducible rfl) ?_
 refine svq 1 rfl (by intro w' hq;have hc0:=za hq s0;have hc1:=za hq s1;have hc2:=za hq s2;go_simp;try with_reducible rfl) ?_
 refine zk (i:=2) (v:=_) rfl rfl (by kernel_rfl) (by kernel_rfl) (fun _ _ _ h=>h) (by rfl) ?_ (fun w' hq=>HPt.out w') ?_
 ·(intro w' hq;go_simp;try with_reducible rfl)
 simp only[Act.put,zs1,zs2,zs3]
 refine zk (i:=3) (v:=_) rfl rfl (by kernel_rfl) (by kernel_rfl) (fun _ _ _ h=>h) (by rfl) ?_ (fun w' hq=>HA2.out w' (hEd.ofQ hq)) ?_
 ·(intro w' hq;go_simp;try with_reducible rfl)
 simp only[Act.put,zs1,zs2,zs3]
 refine svp 4 ?_
 refine svp 5 ?_
 refine svp 6 ?_
 refine svp 7 ?_
 refine svp 8 ?_
 refine zh (by kernel_rfl) (fun W5 hq5=>?_)
 simp only[List.drop_succ_cons,List.drop_zero]
 have hq45:Q W4 W5:=Q.trans (Below.drew (Q.refl W4)) hq5
 have hw5:=Q.trans hw4 hq45
 replace BT:=BT.keep hq45 BT.lt
 clear HPt HA2 hEd hq5 hQ0 hw4 hq45 p0 p1 p2 s0 s1 s2 lBP lBT BP
 have hQ0:=Q.refl W5
 replace s0:=BT.cell 0
 replace s1:=BT.cell 1
 replace s2:=BT.cell 2
 simp only[zs4,zs5]at s0 s1 s2
 replace lBT:=BT.lt
 go_wp2
 rw[rounds_succ]
 go_wp2
 go_ret2
 exact⟨rfl,hw5⟩
theorem zlV{b g:Nat}{x y z u v:Value}(hg:b≤g)(w:World):(zrw b).r w (((((w.setCell ⟨g,0,none⟩ x).setCell ⟨g,1,none⟩ y).setCell ⟨g,2,none⟩ z).setCell ⟨g,3,none⟩ u).setCell ⟨g,4,none⟩ v):=fun _ =>
 (((((Below.refl _ _).setCell (p:=⟨g,0,none⟩) hg _).setCell (p:=⟨g,1,none⟩) hg _).setCell (p:=⟨g,2,none⟩) hg _).setCell (p:=⟨g,3,none⟩) hg _).setCell (p:=⟨g,4,none⟩) hg _
theorem zkX(R:List (List Sd))(i j:Nat)(hi:i<R.flatten.length)(hj:j<R.flatten.length)(hij:i≠j)(F G:Fr)(hF:(za2 R)[i]? = some F)(hG:(za2 R)[j]? = some G)(hl:(za2 R).length=R.flatten.length)(hup:F.up=true)(hup2:G.up=false)
  (f t:P3)(vs vf:Value)(w:World)(_hE:Env w)(hGr:zmr w R vs vf) :
  CR 38 #[.agg #[vs,vf],.agg (Lv.c ⟨2,f,t,i,j⟩).toArray] w (.tuple #[.bool true,.int .i64 0]):=by
 have HT:=LH (fun w=>zil i j ⟨by omega,by omega,by omega⟩ w)
 obtain⟨g,cap,rfl,hfc⟩:=hGr.front hF hl
 obtain⟨g',cap',e',hfd⟩:=hGr.front hG hl
 obtain⟨rfl⟩:g=g':=by simpa using(Value.slice.inj e').1
 clear e'
 obtain⟨sa,sn,sc,-,-,-,rfl,-⟩:=hGr.slices
 have hn0:(0:Int)≤i:=by omega
 have hln:(i:Int)<R.flatten.length:=by omega
 have hm0:(0:Int)≤j:=by omega
 have hlm:(j:Int)<R.flatten.length:=by omega
 unfold frC at hfc hfd
 rw[hup]at hfc
 rw[hup2]at hfd
 have f0:=hfc 0 _ (by decide) rfl
 have f1:=hfc 1 _ (by decide) rfl
 have f2:=hfc 2 _ (by decide) rfl
 have f3:=hfc 3 _ (by decide) rfl
 have f4:=hfc 4 _ (by decide) rfl
 have d0:=hfd 0 _ (by decide) rfl
 have d1:=hfd 1 _ (by decide) rfl
 have d2:=hfd 2 _ (by decide) rfl
 have d3:=hfd 3 _ (by decide) rfl
 have d4:=hfd 4 _ (by decide) rfl
 rw[Nat.add_zero]at f0 d0
 have hgl:g<w.heap.size:=World.block_lt_of_cell? _ _ f0
 clear hfc hfd hGr hF hG hl hup hup2
 generalize R.flatten.length=n at *
 unfold Lv.c
 simp only at *
 generalize ze f.x=X at *
 generalize ze f.y=Y at *
 generalize ze f.z=Z at *
 generalize ze t.x=X' at *
 generalize ze t.y=Y' at *
 generalize ze t.z=Z' at *
 generalize ze F.speed=S1 at *
 generalize ze F.start=S2 at *
 generalize ze G.speed=S3 at *
 generalize ze G.start=S4 at *
 obtain⟨W0,hW0⟩:∃ W0,(w.alloc (.cells #[.slice sa sn sc,.slice (some ⟨g,0,none⟩) n cap] 78)).alloc (.cells #[.int .i64 2,.string ⟨X.toArray⟩,.string ⟨Y.toArray⟩,.string ⟨Z.toArray⟩,.string ⟨X'.toArray⟩,.string ⟨Y'.toArray⟩,.string ⟨Z'.toArray⟩,.int .i64 i,.int .i64 j] 34)=W0:=⟨_,rfl⟩
 have hq0:Q w W0:=by rw[← hW0];exact bt
 have BG:Blk W0 w.heap.size [.slice sa sn sc,.slice (some ⟨g,0,none⟩) n cap] 78:=by rw[← hW0];exact(Blk.new w _ _).alloc _
 have BL:Blk W0 (w.heap.size+1) [.int .i64 2,.string ⟨X.toArray⟩,.string ⟨Y.toArray⟩,.string ⟨Z.toArray⟩,.string ⟨X'.toArray⟩,.string ⟨Y'.toArray⟩,.string ⟨Z'.toArray⟩,.int .i64 i,.int .i64 j] 34:=by rw[← hW0];exact Blk.new1 w _ _ _
 rw[← hq0.cell hgl]at f0 f1 f2 f3 f4 d0 d1 d2 d3 d4
 have hg0:g<W0.heap.size:=Nat.lt_of_lt_of_le hgl hq0.size
 have hg1:g<W0.heap.size+1:=by omega
 have hgn:W0.heap.size≠g:=by omega
 have hgm:W0.heap.size+1≠g:=by omega
 have hQ0:=Q.refl W0
 replace g0:=BG.cell 0
 replace g1:=BG.cell 1
 simp only[zs4,zs5]at g0 g1
 replace lBG:=BG.lt
 replace n0:=BL.cell 0
 replace n1:=BL.cell 1
 replace n2:=BL.cell 2
 replace n3:=BL.cell 3
 replace n4:=BL.cell 4
 replace n5:=BL.cell 5
 replace n6:=BL.cell 6
 replace n7:=BL.cell 7
 replace n8:=BL.cell 8
 simp only[zs4,zs5]at n0 n1 n2 n3 n4 n5 n6 n7 n8
 replace lBL:=BL.lt
 go_enter Tryz.func38,Tryz.ntmps38
 go_wp2_with fail
 refine(HT.out _).mono ?_
 rintro e G1⟨rfl,rfl⟩
 clear HT hW0
 go_wp2_with fail
 have hqd:Q w W0.drew:=Q.trans hq0 (Below.drew (Q.refl W0))
 have BLd:=BL.keep (Below.drew (Q.refl W0)) BL.lt
 refine RF.zn (ρ:=zrw W0.drew.heap.size) 16 (by kernel_rfl) (by kernel_rfl) rfl ?_
 refine RF.svp 0 ?_
 refine RF.svq 1 rfl (by intro w' hq;have hc0:=za (hq (Nat.le_refl _)) g1;go_simp;try with_reducible rfl) ?_
 refine RF.svp 2 ?_
 refine RF.svq 3 rfl (by intro w' hq;have hc0:=za (hq (Nat.le_refl _)) n7;go_simp;try with_reducible rfl) ?_
 refine RF.svp 4 ?_
 refine RF.svq 5 rfl (by intro w' hq;have hc0:=za (hq (Nat.le_refl _)) f0;have hc1:=za (hq (Nat.le_refl _)) f1;have hc2:=za (hq (Nat.le_refl _)) f2;have hc3:=za (hq (Nat.le_refl _)) f3;have hc4:=za (hq (Nat.le_refl _)) f4;go_simp;try with_reducible rfl) ?_
 refine RF.svp 6 ?_
 refine RF.svq 7 rfl (by intro w' hq;have hc0:=za (hq (Nat.le_refl _)) g1;go_simp;try with_reducible rfl) ?_
 refine RF.svp 8 ?_
 refine RF.svq 9 rfl (by intro w' hq;have hc0:=za (hq (Nat.le_refl _)) n8;go_simp;try with_reducible rfl) ?_
 refine RF.svp 10 ?_
 refine RF.svq 11 rfl (by intro w' hq;have hc0:=za (hq (Nat.le_refl _)) d0;have hc1:=za (hq (Nat.le_refl _)) d1;have hc2:=za (hq (Nat.le_refl _)) d2;have hc3:=za (hq (Nat.le_refl _)) d3;have hc4:=za (hq (Nat.le_refl _)) d4;go_simp;try with_reducible rfl) ?_
 clear f0 f1 f2 f3 f4 d0 d1 d2 d3 d4 g0 g1 lBG n0 n1 n2 n3 n4 n5 n6 n7 n8 lBL BG
 refine RF.zex (i:=12) (j:=13) (.cells #[.bool false,.int .i64 0,.int .i64 0,.string ⟨#[]⟩,.string ⟨#[]⟩] 113) (.cells #[.bool false,.int .i64 0,.int .i64 0,.string ⟨#[]⟩,.string ⟨#[]⟩] 113) rfl rfl rfl rfl (by kernel_rfl) (by rfl) (by rfl) (fun w' hq=>?_) (fun w' hq=>?_) (fun w1 hq1=>?_) (fun w1 hq1=>?_)
 ·go_simp;try with_reducible rfl
 ·go_simp;try with_reducible rfl
 case' _ =>
  simp only[Act.put,zs1,zs2,zs3]
  refine RF.zaI (i:=13) (.cells #[.bool false,.int .i64 0,.int .i64 0,.string ⟨#[]⟩,.string ⟨#[]⟩] 113) rfl rfl (by kernel_rfl) (by rfl) (fun w' hq=>by go_simp;try with_reducible rfl) (fun w2 hq2=>?_)
  simp only[Act.put,zs1,zs2,zs3]
  have hT:=((Blk.new w1 [.bool false,.int .i64 0,.int .i64 0,.string ⟨#[]⟩,.string ⟨#[]⟩] 113).keep hq2 (by simp)).alloc (.cells #[.bool false,.int .i64 0,.int .i64 0,.string ⟨#[]⟩,.string ⟨#[]⟩] 113)
  have hU:=Blk.new w2 [.bool false,.int .i64 0,.int .i64 0,.string ⟨#[]⟩,.string ⟨#[]⟩] 113
  have hq6:Q W0.drew (w2.alloc (.cells #[.bool false,.int .i64 0,.int .i64 0,.string ⟨#[]⟩,.string ⟨#[]⟩] 113)):=Q.trans hq1 (Q.trans ((Below.refl _ w1).alloc (Nat.le_refl _) (.cells #[.bool false,.int .i64 0,.int .i64 0,.string ⟨#[]⟩,.string ⟨#[]⟩] 113)) (Q.trans hq2 ((Below.refl _ w2).alloc (Nat.le_refl _) (.cells #[.bool false,.int .i64 0,.int .i64 0,.string ⟨#[]⟩,.string ⟨#[]⟩] 113))))
  have hz:=hq2.size
  rw[World.size_alloc]at hz
  have hbp:W0.drew.heap.size≤w1.heap.size:=by have:=hq1.size;omega
  have hbq:W0.drew.heap.size≤w2.heap.size:=by have:=hq1.size;omega
  have hpq:w1.heap.size≠w2.heap.size:=by omega
  generalize w2.alloc _=W6 at *
  generalize w1.heap.size=p at *
  generalize w2.heap.size=q at *
  clear hz hq1 hq2
 rotate_left
 case' _ =>
  simp only[Act.put,zs1,zs2,zs3]
  refine RF.zaI (i:=12) (.cells #[.bool false,.int .i64 0,.int .i64 0,.string ⟨#[]⟩,.string ⟨#[]⟩] 113) rfl rfl (by kernel_rfl) (by rfl) (fun w' hq=>by go_simp;try with_reducible rfl) (fun w2 hq2=>?_)
  simp only[Act.put,zs1,zs2,zs3]
  have hU:=((Blk.new w1 [.bool false,.int .i64 0,.int .i64 0,.string ⟨#[]⟩,.string ⟨#[]⟩] 113).keep hq2 (by simp)).alloc (.cells #[.bool false,.int .i64 0,.int .i64 0,.string ⟨#[]⟩,.string ⟨#[]⟩] 113)
  have hT:=Blk.new w2 [.bool false,.int .i64 0,.int .i64 0,.string ⟨#[]⟩,.string ⟨#[]⟩] 113
  have hq6:Q W0.drew (w2.alloc (.cells #[.bool false,.int .i64 0,.int .i64 0,.string ⟨#[]⟩,.string ⟨#[]⟩] 113)):=Q.trans hq1 (Q.trans ((Below.refl _ w1).alloc (Nat.le_refl _) (.cells #[.bool false,.int .i64 0,.int .i64 0,.string ⟨#[]⟩,.string ⟨#[]⟩] 113)) (Q.trans hq2 ((Below.refl _ w2).alloc (Nat.le_refl _) (.cells #[.bool false,.int .i64 0,.int .i64 0,.string ⟨#[]⟩,.string ⟨#[]⟩] 113))))
  have hz:=hq2.size
  rw[World.size_alloc]at hz
  have hbp:W0.drew.heap.size≤w2.heap.size:=by have:=hq1.size;omega
  have hbq:W0.drew.heap.size≤w1.heap.size:=by have:=hq1.size;omega
  have hpq:w2.heap.size≠w1.heap.size:=by omega
  generalize w2.alloc _=W6 at *
  generalize w2.heap.size=p at *
  generalize w1.heap.size=q at *
  clear hz hq1 hq2
 all_goals
  refine RF.zaT (i:=14) (fun w'=>((((w'.setCell ⟨p,0,none⟩ (.bool true)).setCell ⟨p,1,none⟩ (.int .i64 F.coord)).setCell ⟨p,2,none⟩ (.int .i64 F.dir)).setCell ⟨p,3,none⟩ (.string ⟨S1.toArray⟩)).setCell ⟨p,4,none⟩ (.string ⟨S2.toArray⟩)) rfl rfl (by kernel_rfl) (by rfl) (fun w' hq=>?_) (fun w'=>zlV hbp w') (fun w7 hq7=>?_)
  ·have hc:=hT.keep hq hT.lt
   have e0:=hc.cell
   have f0:=hc.frozen
   go_simp;try with_reducible rfl
  simp only[Act.put]
  have hT7:=((((((hT.keep hq7 hT.lt).set 0 (.bool true)).set 1 (.int .i64 F.coord)).set 2 (.int .i64 F.dir)).set 3 (.string ⟨S1.toArray⟩)).set 4 (.string ⟨S2.toArray⟩))
  have hU7:=((((((hU.keep hq7 hU.lt).setOther hpq 0 (.bool true)).setOther hpq 1 (.int .i64 F.coord)).setOther hpq 2 (.int .i64 F.dir)).setOther hpq 3 (.string ⟨S1.toArray⟩)).setOther hpq 4 (.string ⟨S2.toArray⟩))
  simp only[List.set_cons_zero,List.set_cons_succ]at hT7
  have hl7:Below W0.drew.heap.size W0.drew (((((w7.setCell ⟨p,0,none⟩ (.bool true)).setCell ⟨p,1,none⟩ (.int .i64 F.coord)).setCell ⟨p,2,none⟩ (.int .i64 F.dir)).setCell ⟨p,3,none⟩ (.string ⟨S1.toArray⟩)).setCell ⟨p,4,none⟩ (.string ⟨S2.toArray⟩)):=(((((Q.trans hq6 hq7).setCell (p:=⟨p,0,none⟩) hbp _).setCell (p:=⟨p,1,none⟩) hbp _).setCell (p:=⟨p,2,none⟩) hbp _).setCell (p:=⟨p,3,none⟩) hbp _).setCell (p:=⟨p,4,none⟩) hbp _
  clear hT hU hq6 hq7
  generalize ((((w7.setCell ⟨p,0,none⟩ (.bool true)).setCell ⟨p,1,none⟩ (.int .i64 F.coord)).setCell ⟨p,2,none⟩ (.int .i64 F.dir)).setCell ⟨p,3,none⟩ (.string ⟨S1.toArray⟩)).setCell ⟨p,4,none⟩ (.string ⟨S2.toArray⟩)=w8 at *
  refine RF.zaT (i:=15) (fun w'=>((((w'.setCell ⟨q,0,none⟩ (.bool false)).setCell ⟨q,1,none⟩ (.int .i64 G.coord)).setCell ⟨q,2,none⟩ (.int .i64 G.dir)).setCell ⟨q,3,none⟩ (.string ⟨S3.toArray⟩)).setCell ⟨q,4,none⟩ (.string ⟨S4.toArray⟩)) rfl rfl (by kernel_rfl) (by rfl) (fun w' hq=>?_) (fun w'=>zlV hbq w') (fun w9 hq9=>?_)
  ·have hc:=hU7.keep hq hU7.lt
   have e0:=hc.cell
   have f0:=hc.frozen
   go_simp;try with_reducible rfl
  simp only[Act.put]
  have hT9:=((((((hT7.keep hq9 hT7.lt).setOther (Ne.symm hpq) 0 (.bool false)).setOther (Ne.symm hpq) 1 (.int .i64 G.coord)).setOther (Ne.symm hpq) 2 (.int .i64 G.dir)).setOther (Ne.symm hpq) 3 (.string ⟨S3.toArray⟩)).setOther (Ne.symm hpq) 4 (.string ⟨S4.toArray⟩))
  have hU9:=((((((hU7.keep hq9 hU7.lt).set 0 (.bool false)).set 1 (.int .i64 G.coord)).set 2 (.int .i64 G.dir)).set 3 (.string ⟨S3.toArray⟩)).set 4 (.string ⟨S4.toArray⟩))
  simp only[List.set_cons_zero,List.set_cons_succ]at hU9
  have hl9:Below W0.drew.heap.size W0.drew (((((w9.setCell ⟨q,0,none⟩ (.bool false)).setCell ⟨q,1,none⟩ (.int .i64 G.coord)).setCell ⟨q,2,none⟩ (.int .i64 G.dir)).setCell ⟨q,3,none⟩ (.string ⟨S3.toArray⟩)).setCell ⟨q,4,none⟩ (.string ⟨S4.toArray⟩)):=(((((Below.trans hl7 (hq9.mono hl7.size)).setCell (p:=⟨q,0,none⟩) hbq _).setCell (p:=⟨q,1,none⟩) hbq _).setCell (p:=⟨q,2,none⟩) hbq _).setCell (p:=⟨q,3,none⟩) hbq _).setCell (p:=⟨q,4,none⟩) hbq _
  clear hT7 hU7 hl7 hq9
  generalize ((((w9.setCell ⟨q,0,none⟩ (.bool false)).setCell ⟨q,1,none⟩ (.int .i64 G.coord)).setCell ⟨q,2,none⟩ (.int .i64 G.dir)).setCell ⟨q,3,none⟩ (.string ⟨S3.toArray⟩)).setCell ⟨q,4,none⟩ (.string ⟨S4.toArray⟩)=w10 at *
  refine RF.zh (by kernel_rfl) (fun w3 hq3=>?_)
  simp only[List.drop_succ_cons,List.drop_nil]
  replace hT9:=hT9.keep hq3 hT9.lt
  replace hU9:=hU9.keep hq3 hU9.lt
  have hqq:Q W0.drew w3:=Below.trans hl9 (hq3.mono hl9.size)
  have hBL:=BLd.keep hqq BLd.lt
  have hwe:Q w w3:=Q.trans hqd hqq
  have l0:=hBL.cell
  have t0:=hT9.cell
  have u0:=hU9.cell
  clear hqq hq3 hl9 hbp hbq hpq hT9 hU9 hBL BLd
  go_wp2
  go_ret2
  exact⟨rfl,hwe⟩
theorem zjj(R:List (List Sd))(hp:zdb R=0)(hlen:R.length≤1000)(i j:Nat)(hi:i<R.flatten.length)(hj:j<R.flatten.length)(f t:P3)(ok:LvOk ⟨2,f,t,i,j⟩)(gi:(zcf R.flatten i).gable=false)(gj:(zcf R.flatten j).gable=false)(a:Option Addr)(nn cp:Nat)
  (HA:Hid (∀ vs vf W,Env W→zmr W R vs vf→∀ s:Nat,s=i∨s=j→CR 37 #[.agg #[vs,vf],.int .i64 s,.agg (Lv.c ⟨2,f,t,i,j⟩).toArray] W (.tuple #[.bool true,.int .i64 0])))
  (HS:Hid (∀ vs vf W,Env W→zmr W R vs vf→CR 38 #[.agg #[vs,vf],.agg (Lv.c ⟨2,f,t,i,j⟩).toArray] W (.tuple #[.bool true,.int .i64 0])))
  (w:World)(hE:Env w)(hSA:za9 w)(hv:zi9 w (.slice a nn cp) R) :
  CR 15 #[.agg #[.slice a nn cp],.agg (Lv.c ⟨2,f,t,i,j⟩).toArray] w (.tuple #[.bool true,.int .i64 0]):=by
 have HR:=LH (fun W hW (hq:Q w W)=>zjG R hp hlen ⟨2,f,t,i,j⟩ ok (by simp only;omega) (by simp only;omega) a nn cp W hW (hSA.q hq) (hv.keep hq))
 have hn0:(0:Int)≤i:=by omega
 have hm0:(0:Int)≤j:=by omega
 have hb1:decide ((i:Int)<0)=false:=decide_eq_false (by omega)
 have hb2:decide ((j:Int)<0)=false:=decide_eq_false (by omega)
 have HI:=fun vs vf W h=>HA.out vs vf W h
 clear hSA hv hp hlen ok HI
 unfold Lv.c at *
 simp only at *
 generalize ze f.x=X at *
 generalize ze f.y=Y at *
 generalize ze f.z=Z at *
 generalize ze t.x=X' at *
 generalize ze t.y=Y' at *
 generalize ze t.z=Z' at *
 obtain⟨W0,hW0⟩:∃ W0,(w.alloc (.cells #[.slice a nn cp] 48)).alloc (.cells #[.int .i64 2,.string ⟨X.toArray⟩,.string ⟨Y.toArray⟩,.string ⟨Z.toArray⟩,.string ⟨X'.toArray⟩,.string ⟨Y'.toArray⟩,.string ⟨Z'.toArray⟩,.int .i64 i,.int .i64 j] 34)=W0:=⟨_,rfl⟩
 have hq0:Q w W0:=by rw[← hW0];exact bt
 have BP:Blk W0 w.heap.size [.slice a nn cp] 48:=by rw[← hW0];exact(Blk.new w _ _).alloc _
 have BL:Blk W0 (w.heap.size+1) [.int .i64 2,.string ⟨X.toArray⟩,.string ⟨Y.toArray⟩,.string ⟨Z.toArray⟩,.string ⟨X'.toArray⟩,.string ⟨Y'.toArray⟩,.string ⟨Z'.toArray⟩,.int .i64 i,.int .i64 j] 34:=by rw[← hW0];exact Blk.new1 w _ _ _
 have hQ0:=Q.refl W0
 replace p0:=BP.cell
 replace lBP:=BP.lt
 replace n0:=BL.cell
 replace lBL:=BL.lt
 go_enter Tryz.func15,Tryz.ntmps15
 go_wp2_with fail
 refine(HR.out _ (hE.ofQ hq0) hq0).mono ?_
 rintro e G1⟨vs,vf,rfl,hq1,hgr⟩
 have hs1:Q W0 G1:=Q.trans bt hq1
 have hQ1:Q W0 G1:=Q.trans hQ0 hs1
 replace BP:=BP.keep hs1 BP.lt
 replace p0:=BP.cell
 replace lBP:=BP.lt
 replace BL:=BL.keep hs1 BL.lt
 replace n0:=BL.cell
 replace lBL:=BL.lt
 clear hW0 HR
 have hgr1:=hgr
 obtain⟨⟨sa,scap,rfl,hrw⟩,-⟩:=hgr1
 obtain⟨bi,oi,hsa,hli,hdi⟩:=hrw i hi
 obtain⟨bj,oj,hsj,hlj,hdj⟩:=hrw j hj
 subst hsa
 obtain⟨rfl,rfl⟩:bi=bj∧oi=oj:=by
  simp at hsj
  exact hsj
 have d4:G1.cell? ⟨bi,oi+i*7+4,none⟩=some (.bool (zcf R.flatten i).gable):=hdi 4 _ (by rw[← zcN hi];rfl)
 have e4:G1.cell? ⟨bi,oi+j*7+4,none⟩=some (.bool (zcf R.flatten j).gable):=hdj 4 _ (by rw[← zcN hj];rfl)
 rw[gi]at d4
 rw[gj]at e4
 obtain⟨-,-,-,ga,gn,gc,-,rfl⟩:=hgr.slices
 have hlni:(i:Int)<R.flatten.length:=by omega
 have hlnj:(j:Int)<R.flatten.length:=by omega
 clear hrw hdi hdj gi gj
 have HA':=LH (fun W hW h=>HA.out _ _ W hW (hgr.keep h))
 have HS':=LH (fun W hW h=>HS.out _ _ W hW (hgr.keep h))
 clear HA HS hgr
 generalize R.flatten.length=n at *
 go_wp2
 refine wp_loop_rounds 3 ?_
 rw[rounds_succ]
 go_wp2_with fail
 obtain⟨W2,hW2⟩:∃ W2,(G1.alloc (.cells #[.slice (some ⟨bi,oi,none⟩) n scap,.slice ga gn gc] 78)).alloc (.cells #[.int .i64 i,.int .i64 j] 3)=W2:=⟨_,rfl⟩
 have hq12:Q G1 W2:=by rw[← hW2];exact bt
 have BG:Blk W2 G1.heap.size [.slice (some ⟨bi,oi,none⟩) n scap,.slice ga gn gc] 78:=by rw[← hW2];exact(Blk.new G1 _ _).alloc _
 have BI:Blk W2 (G1.heap.size+1) [.int .i64 i,.int .i64 j] 3:=by rw[← hW2];exact Blk.new1 G1 _ _ _
 have E4:W2.cell? ⟨bi,oi+j*7+4,none⟩=some (.bool false):=by rw[hq12.cell (p:=⟨bi,oi+j*7+4,none⟩) hli];exact e4
 have hli2:bi<W2.heap.size:=Nat.lt_of_lt_of_le hli hq12.size
 replace BL:=BL.keep hq12 BL.lt
 have hw2:=Q.trans hq0 (Q.trans hQ1 hq12)
 have H1:=LH (fun W hW hq s hs=>HA'.out W hW (Q.trans hq12 hq) s hs)
 have H2:=LH (fun W hW hq=>HS'.out W hW (Q.trans hq12 hq))
 rw[hW2]
 clear hW2 HA' HS' d4 e4 hli hlj BP p0 lBP n0 lBL hq1 hs1 hQ1 hq12 hQ0
 generalize G1.heap.size=gb at *
 have hQ0:=Q.refl W2
 replace n0:=BL.cell
 replace lBL:=BL.lt
 replace u0:=BG.cell
 replace lBG:=BG.lt
 replace v0:=BI.cell
 replace lBI:=BI.lt
 refine cx (H1.out W2 (hE.ofQ hw2) (Q.refl W2) i (.inl rfl)) fun W3 hq3=>?_
 rw[← hq3.cell (p:=⟨bi,oi+j*7+4,none⟩) hli2]at E4
 replace BL:=BL.keep hq3 BL.lt
 replace BG:=BG.keep hq3 BG.lt
 replace BI:=BI.keep hq3 BI.lt
 replace n0:=BL.cell
 replace lBL:=BL.lt
 replace u0:=BG.cell
 replace lBG:=BG.lt
 replace v0:=BI.cell
 replace lBI:=BI.lt
 go_wp2
 rw[rounds_succ]
 go_wp2_with fail
 refine cx (H1.out W3 (hE.ofQ (Q.trans hw2 hq3)) hq3 j (.inr rfl)) fun W4 hq4=>?_
 have hq24:=Q.trans hq3 hq4
 clear E4 H1
 replace BL:=BL.keep hq4 BL.lt
 replace BG:=BG.keep hq4 BG.lt
 replace BI:=BI.keep hq4 BI.lt
 replace n0:=BL.cell
 replace lBL:=BL.lt
 replace u0:=BG.cell
 replace lBG:=BG.lt
 replace v0:=BI.cell
 replace lBI:=BI.lt
 go_wp2
 rw[rounds_succ]
 go_wp2_with fail
 refine cx (H2.out W4 (hE.ofQ (Q.trans hw2 hq24)) hq24) fun W5 hq5=>?_
 have hQe:=Q.trans hw2 (Q.trans hq24 hq5)
 go_wp2
 go_ret2
 exact⟨rfl,hQe⟩
theorem zhi(k l r:Int)(f t:P3)(bf:B3 12 f)(bt:B3 12 t)(m:Nat)(bd:B3 m (t.sub f))(hm:6*m+2≤300)(hs:Bd 16 (t.sub f).sq)(w:World)(hE:Env w) :
  Calls Tryz.prog 46 #[.agg (Lv.c ⟨k,f,t,l,r⟩).toArray] w fun e w'=>∃ v,e=.returned (.tuple #[v,.int .i64 0])∧Q w w'∧LenAt w' w.heap.size v (t.sub f).sq:=by
 have HS:=LH (fun w hw=>zjC t f bt bf (by decide) w hw)
 have HL:=LH (fun w hw=>zj7 (t.sub f) bd hm hs w hw)
 clear bf bt bd hm hs
 unfold Lv.c
 unfold V3 at *
 simp only at *
 generalize (t.sub f).sq=s at *
 generalize ze (t.sub f).x=DX at *
 generalize ze (t.sub f).y=DY at *
 generalize ze (t.sub f).z=DZ at *
 generalize ze f.x=X at *
 generalize ze f.y=Y at *
 generalize ze f.z=Z at *
 generalize ze t.x=X' at *
 generalize ze t.y=Y' at *
 generalize ze t.z=Z' at *
 obtain⟨W0,hW0⟩:∃ W0,w.alloc (.cells #[.int .i64 k,.string ⟨X.toArray⟩,.string ⟨Y.toArray⟩,.string ⟨Z.toArray⟩,.string ⟨X'.toArray⟩,.string ⟨Y'.toArray⟩,.string ⟨Z'.toArray⟩,.int .i64 l,.int .i64 r] 34)=W0:=⟨_,rfl⟩
 have hq0:Q w W0:=by rw[← hW0];exact bt
 have BL:Blk W0 w.heap.size [.int .i64 k,.string ⟨X.toArray⟩,.string ⟨Y.toArray⟩,.string ⟨Z.toArray⟩,.string ⟨X'.toArray⟩,.string ⟨Y'.toArray⟩,.string ⟨Z'.toArray⟩,.int .i64 l,.int .i64 r] 34:=by rw[← hW0];exact Blk.new w _ _
 have hQ0:=Q.refl W0
 replace n0:=BL.cell
 replace lBL:=BL.lt
 go_enter Tryz.func46,Tryz.ntmps46
 go_wp2_with fail
 refine cx (HS.out _ (hE.ofQ hq0)) fun G1 hq1=>?_
 have hs1:Q W0 G1:=Q.trans bt hq1
 have hQ1:Q W0 G1:=Q.trans hQ0 hs1
 replace BL:=BL.keep hs1 BL.lt
 replace n0:=BL.cell
 replace lBL:=BL.lt
 clear hW0 HS
 go_wp2_with fail
 refine(HL.out _ (hE.ofQ (Q.trans hq0 (Q.trans hQ1 bt)))).mono ?_
 rintro e G2⟨v,rfl,hq2,hl⟩
 have hs2:Q G1 G2:=Q.trans bt hq2
 have hQ2:Q W0 G2:=Q.trans hQ1 hs2
 replace BL:=BL.keep hs2 BL.lt
 replace n0:=BL.cell
 replace lBL:=BL.lt
 have hQe:=Q.trans hq0 hQ2
 have hl':=hl.mono (show w.heap.size≤_ from Nat.le_trans (Q.trans hq0 hQ1).size (by rw[World.size_alloc];omega))
 go_wp2
 go_ret2
 exact⟨_,rfl,hQe,hl'⟩
theorem zlu(x:Lv)(ok:LvOk x)(m:Nat)(bd:B3 m (x.t.sub x.f))(hm:6*m+2≤300)(hs:Bd 16 (x.t.sub x.f).sq)(w:World)(hE:Env w)(hS:za9 w) :
  Calls Tryz.prog 19 #[.agg x.c.toArray] w fun e w'=>∃ v,e=.returned (.tuple #[v,.int .i64 0])∧Q w w'∧LenAt w' w.heap.size v (x.t.sub x.f).sq:=by
 have HC:=LH (fun W hW hq=>zdZ x ok W hW (hS.q (w':=W) hq))
 have HL:=LH (fun W hW=>zhi x.k x.l x.r x.f x.t ok.f ok.t m bd hm hs W hW)
 clear bd hm hs hS ok
 obtain⟨k,f,t,l,r⟩:=x
 unfold Lv.c at *
 simp only at *
 generalize (t.sub f).sq=s at *
 generalize ze f.x=X at *
 generalize ze f.y=Y at *
 generalize ze f.z=Z at *
 generalize ze t.x=X' at *
 generalize ze t.y=Y' at *
 generalize ze t.z=Z' at *
 obtain⟨W0,hW0⟩:∃ W0,w.alloc (.cells #[.int .i64 k,.string ⟨X.toArray⟩,.string ⟨Y.toArray⟩,.string ⟨Z.toArray⟩,.string ⟨X'.toArray⟩,.string ⟨Y'.toArray⟩,.string ⟨Z'.toArray⟩,.int .i64 l,.int .i64 r] 34)=W0:=⟨_,rfl⟩
 have hq0:Q w W0:=by rw[← hW0];exact bt
 have BL:Blk W0 w.heap.size [.int .i64 k,.string ⟨X.toArray⟩,.string ⟨Y.toArray⟩,.string ⟨Z.toArray⟩,.string ⟨X'.toArray⟩,.string ⟨Y'.toArray⟩,.string ⟨Z'.toArray⟩,.int .i64 l,.int .i64 r] 34:=by rw[← hW0];exact Blk.new w _ _
 have hQ0:=Q.refl W0
 replace n0:=BL.cell
 replace lBL:=BL.lt
 go_enter Tryz.func19,Tryz.ntmps19
 go_wp2_with fail
 refine cx (HC.out _ (hE.ofQ hq0) hq0) fun G1 hq1=>?_
 have hs1:Q W0 G1:=Q.trans bt hq1
 have hQ1:Q W0 G1:=Q.trans hQ0 hs1
 replace BL:=BL.keep hs1 BL.lt
 replace n0:=BL.cell
 replace lBL:=BL.lt
 clear hW0 HC
 go_wp2_with fail
 refine(HL.out _ (hE.ofQ (Q.trans hq0 hQ1))).mono ?_
 rintro e G2⟨v,rfl,hq2,hl⟩
 have hs2:Q G1 G2:=Q.trans bt hq2
 have hQ2:Q W0 G2:=Q.trans hQ1 hs2
 replace BL:=BL.keep hs2 BL.lt
 replace n0:=BL.cell
 replace lBL:=BL.lt
 have hQe:=Q.trans hq0 hQ2
 have hl':=hl.mono (show w.heap.size≤_ from(Q.trans hq0 hQ1).size)
 go_wp2
 go_ret2
 exact⟨_,rfl,hQe,hl'⟩
theorem zov(x:Lv)(ok:LvOk x)(m:Nat)(bd:B3 m (x.t.flat.sub x.f.flat))(hm:6*m+2≤300)(hs:Bd 16 (x.t.flat.sub x.f.flat).sq)(w:World)(hE:Env w)(hS:za9 w) :
  Calls Tryz.prog 20 #[.agg x.c.toArray] w fun e w'=>∃ v,e=.returned (.tuple #[v,.int .i64 0])∧Q w w'∧LenAt w' w.heap.size v (x.t.flat.sub x.f.flat).sq:=by
 have HC:=LH (fun W hW hq=>zdZ x ok W hW (hS.q (w':=W) hq))
 have b0:Bd 12 (0:Rat):=⟨by decide,by decide⟩
 have HL:=LH (fun W hW=>zhi x.k x.l x.r x.f.flat x.t.flat ⟨ok.f.1,ok.f.2.1,b0⟩ ⟨ok.t.1,ok.t.2.1,b0⟩ m bd hm hs W hW)
 clear bd hm hs hS ok
 obtain⟨k,f,t,l,r⟩:=x
 unfold Lv.c at *
 unfold P3.flat at *
 simp only at *
 rw[zaY]at HL
 generalize (P3.sub ⟨t.x,t.y,0⟩ ⟨f.x,f.y,0⟩).sq=s at *
 generalize ze f.x=X at *
 generalize ze f.y=Y at *
 generalize ze f.z=Z at *
 generalize ze t.x=X' at *
 generalize ze t.y=Y' at *
 generalize ze t.z=Z' at *
 obtain⟨W0,hW0⟩:∃ W0,w.alloc (.cells #[.int .i64 k,.string ⟨X.toArray⟩,.string ⟨Y.toArray⟩,.string ⟨Z.toArray⟩,.string ⟨X'.toArray⟩,.string ⟨Y'.toArray⟩,.string ⟨Z'.toArray⟩,.int .i64 l,.int .i64 r] 34)=W0:=⟨_,rfl⟩
 have hq0:Q w W0:=by rw[← hW0];exact bt
 have BL:Blk W0 w.heap.size [.int .i64 k,.string ⟨X.toArray⟩,.string ⟨Y.toArray⟩,.string ⟨Z.toArray⟩,.string ⟨X'.toArray⟩,.string ⟨Y'.toArray⟩,.string ⟨Z'.toArray⟩,.int .i64 l,.int .i64 r] 34:=by rw[← hW0];exact Blk.new w _ _
 have hQ0:=Q.refl W0
 replace n0:=BL.cell
 replace lBL:=BL.lt
 go_enter Tryz.func20,Tryz.ntmps20
 go_wp2_with fail
 refine cx (HC.out _ (hE.ofQ hq0) hq0) fun G1 hq1=>?_
 have hs1:Q W0 G1:=Q.trans bt hq1
 have hQ1:Q W0 G1:=Q.trans hQ0 hs1
 replace BL:=BL.keep hs1 BL.lt
 replace n0:=BL.cell
 replace lBL:=BL.lt
 clear hW0 HC
 have hw1:Q w G1:=Q.trans hq0 hQ1
 have z0:=BL.frozen
 have hQ3:=(hw1.setCell (p:=⟨w.heap.size,3,none⟩) (by simp) (.string ⟨#[48]⟩)).setCell (p:=⟨w.heap.size,6,none⟩) (by simp) (.string ⟨#[48]⟩)
 have BL3:=(BL.set 3 (.string ⟨#[48]⟩)).set 6 (.string ⟨#[48]⟩)
 simp only[List.set_cons_zero,List.set_cons_succ]at BL3
 go_wp2_with fail
 refine(HL.out _ (hE.ofQ hQ3)).mono ?_
 rintro e G2⟨v,rfl,hq2,hl⟩
 have hQe:=Q.trans hQ3 hq2
 have hl':=hl.mono (show w.heap.size≤_ from hQ3.size)
 go_wp2
 go_ret2
 exact⟨_,rfl,hQe,hl'⟩
end
end Go.Proofs.YtapnkgdnflofbaaGreatDoor
