/-
  Walks of the chapter's bounds: great plans, great members, numbers.; Walks of package front: the front of a side.
-/
import Derived.Test.YtbpghkdadajomaaGreatDoorG15
set_option maxRecDepth 100000
set_option maxHeartbeats 4000000
namespace Go.Proofs.YtbpghkdadajomaaGreatDoor
section
open Go.RowKit Go.Shelf Kp
attribute [local go_sem] Oper.semAt_some
def grS(X Y Z:Str):Bool:=decide ((30:Int)<X.length) || (decide ((30:Int)<Y.length) || decide ((30:Int)<Z.length))
def grM(m:Mb):Bool:=grS m.fx m.fy m.fz || grS m.tx m.ty m.tz
theorem zpL{m:Mb}(h:grM m=false):m.short:=by
 unfold grM grS at h
 simp only[Bool.or_eq_false_iff,decide_eq_false_iff_not]at h
 obtain⟨⟨h1,h2,h3⟩,h4,h5,h6⟩:=h
 exact⟨by omega,by omega,by omega,by omega,by omega,by omega⟩
theorem zeU(X Y Z:Str)(w:World) :
  Calls Tryz.prog 118 #[.agg #[.string ⟨X.toArray⟩,.string ⟨Y.toArray⟩,.string ⟨Z.toArray⟩]] w fun e w'=>e=.returned (.bool (grS X Y Z))∧Q w w':=by
 unfold grS
 cases h1:decide ((30:Int)<X.length) <;> cases h2:decide ((30:Int)<Y.length) <;> cases h3:decide ((30:Int)<Z.length)
 all_goals
  go_enter Tryz.func118,Tryz.ntmps118
  go_wp2
  go_ret
  exact⟨rfl,bt⟩
theorem zmL(m:Mb)(b c:Nat)(t:TypeId)(w:World)(hb:Blk w b (mbC m) t) :
  Calls Tryz.prog 65 #[.slice (some ⟨b,0,none⟩) 1 c] w fun e w'=>e=.returned (.bool (grM m))∧Q w w':=by
 unfold grM
 obtain⟨k,fc,ot,X,Y,Z,X',Y',Z',W,D⟩:=m
 unfold mbC at hb
 simp only at hb ⊢
 have H1:=LH (fun w=>zeU X Y Z w)
 have H2:=LH (fun w=>zeU X' Y' Z' w)
 cases h1:grS X Y Z <;> cases h2:grS X' Y' Z'
 all_goals
  rw[h1]at H1
  rw[h2]at H2
  have hQ0:=Q.refl w
  replace m0:=hb.cell 0
  replace m1:=hb.cell 1
  replace m2:=hb.cell 2
  replace m3:=hb.cell 3
  replace m4:=hb.cell 4
  replace m5:=hb.cell 5
  replace m6:=hb.cell 6
  replace m7:=hb.cell 7
  replace m8:=hb.cell 8
  replace m9:=hb.cell 9
  replace m10:=hb.cell 10
  simp only[zs4,zs5]at m0 m1 m2 m3 m4 m5 m6 m7 m8 m9 m10
  replace lhb:=hb.lt
  go_enter Tryz.func65,Tryz.ntmps65
  go_wp2
  refine wp_loop_rounds 2 ?_
  rw[rounds_succ]
 ·skip
  have hQ0:=Q.refl w
  replace m0:=hb.cell 0
  replace m1:=hb.cell 1
  replace m2:=hb.cell 2
  replace m3:=hb.cell 3
  replace m4:=hb.cell 4
  replace m5:=hb.cell 5
  replace m6:=hb.cell 6
  replace m7:=hb.cell 7
  replace m8:=hb.cell 8
  replace m9:=hb.cell 9
  replace m10:=hb.cell 10
  simp only[zs4,zs5]at m0 m1 m2 m3 m4 m5 m6 m7 m8 m9 m10
  replace lhb:=hb.lt
  go_wp2_with fail
  refine(H1.out _).mono ?_
  rintro e w1⟨rfl,hq1⟩
  have hs1:Q w w1:=Q.trans bt hq1
  have hQ1:Q w w1:=Q.trans hQ0 hs1
  replace hb:=hb.keep hs1 hb.lt
  replace m0:=hb.cell 0
  replace m1:=hb.cell 1
  replace m2:=hb.cell 2
  replace m3:=hb.cell 3
  replace m4:=hb.cell 4
  replace m5:=hb.cell 5
  replace m6:=hb.cell 6
  replace m7:=hb.cell 7
  replace m8:=hb.cell 8
  replace m9:=hb.cell 9
  replace m10:=hb.cell 10
  simp only[zs4,zs5]at m0 m1 m2 m3 m4 m5 m6 m7 m8 m9 m10
  replace lhb:=hb.lt
  go_wp2_with fail
  refine(H2.out _).mono ?_
  rintro e w2⟨rfl,hq2⟩
  have hs2:Q w1 w2:=Q.trans bt hq2
  have hQ2:Q w w2:=Q.trans hQ1 hs2
  replace hb:=hb.keep hs2 hb.lt
  replace m0:=hb.cell 0
  replace m1:=hb.cell 1
  replace m2:=hb.cell 2
  replace m3:=hb.cell 3
  replace m4:=hb.cell 4
  replace m5:=hb.cell 5
  replace m6:=hb.cell 6
  replace m7:=hb.cell 7
  replace m8:=hb.cell 8
  replace m9:=hb.cell 9
  replace m10:=hb.cell 10
  simp only[zs4,zs5]at m0 m1 m2 m3 m4 m5 m6 m7 m8 m9 m10
  replace lhb:=hb.lt
  go_wp2
  rw[rounds_succ]
  go_wp2
  go_ret
  exact⟨rfl,bt⟩
 ·skip
  have hQ0:=Q.refl w
  replace m0:=hb.cell 0
  replace m1:=hb.cell 1
  replace m2:=hb.cell 2
  replace m3:=hb.cell 3
  replace m4:=hb.cell 4
  replace m5:=hb.cell 5
  replace m6:=hb.cell 6
  replace m7:=hb.cell 7
  replace m8:=hb.cell 8
  replace m9:=hb.cell 9
  replace m10:=hb.cell 10
  simp only[zs4,zs5]at m0 m1 m2 m3 m4 m5 m6 m7 m8 m9 m10
  replace lhb:=hb.lt
  go_wp2_with fail
  refine(H1.out _).mono ?_
  rintro e w1⟨rfl,hq1⟩
  have hs1:Q w w1:=Q.trans bt hq1
  have hQ1:Q w w1:=Q.trans hQ0 hs1
  replace hb:=hb.keep hs1 hb.lt
  replace m0:=hb.cell 0
  replace m1:=hb.cell 1
  replace m2:=hb.cell 2
  replace m3:=hb.cell 3
  replace m4:=hb.cell 4
  replace m5:=hb.cell 5
  replace m6:=hb.cell 6
  replace m7:=hb.cell 7
  replace m8:=hb.cell 8
  replace m9:=hb.cell 9
  replace m10:=hb.cell 10
  simp only[zs4,zs5]at m0 m1 m2 m3 m4 m5 m6 m7 m8 m9 m10
  replace lhb:=hb.lt
  go_wp2_with fail
  refine(H2.out _).mono ?_
  rintro e w2⟨rfl,hq2⟩
  have hs2:Q w1 w2:=Q.trans bt hq2
  have hQ2:Q w w2:=Q.trans hQ1 hs2
  replace hb:=hb.keep hs2 hb.lt
  replace m0:=hb.cell 0
  replace m1:=hb.cell 1
  replace m2:=hb.cell 2
  replace m3:=hb.cell 3
  replace m4:=hb.cell 4
  replace m5:=hb.cell 5
  replace m6:=hb.cell 6
  replace m7:=hb.cell 7
  replace m8:=hb.cell 8
  replace m9:=hb.cell 9
  replace m10:=hb.cell 10
  simp only[zs4,zs5]at m0 m1 m2 m3 m4 m5 m6 m7 m8 m9 m10
  replace lhb:=hb.lt
  go_wp2
  go_ret
  exact⟨rfl,bt⟩
 ·skip
  have hQ0:=Q.refl w
  replace m0:=hb.cell 0
  replace m1:=hb.cell 1
  replace m2:=hb.cell 2
  replace m3:=hb.cell 3
  replace m4:=hb.cell 4
  replace m5:=hb.cell 5
  replace m6:=hb.cell 6
  replace m7:=hb.cell 7
  replace m8:=hb.cell 8
  replace m9:=hb.cell 9
  replace m10:=hb.cell 10
  simp only[zs4,zs5]at m0 m1 m2 m3 m4 m5 m6 m7 m8 m9 m10
  replace lhb:=hb.lt
  go_wp2_with fail
  refine(H1.out _).mono ?_
  rintro e w1⟨rfl,hq1⟩
  have hs1:Q w w1:=Q.trans bt hq1
  have hQ1:Q w w1:=Q.trans hQ0 hs1
  replace hb:=hb.keep hs1 hb.lt
  replace m0:=hb.cell 0
  replace m1:=hb.cell 1
  replace m2:=hb.cell 2
  replace m3:=hb.cell 3
  replace m4:=hb.cell 4
  replace m5:=hb.cell 5
  replace m6:=hb.cell 6
  replace m7:=hb.cell 7
  replace m8:=hb.cell 8
  replace m9:=hb.cell 9
  replace m10:=hb.cell 10
  simp only[zs4,zs5]at m0 m1 m2 m3 m4 m5 m6 m7 m8 m9 m10
  replace lhb:=hb.lt
  go_wp2
  go_ret
  exact⟨rfl,bt⟩
 ·skip
  have hQ0:=Q.refl w
  replace m0:=hb.cell 0
  replace m1:=hb.cell 1
  replace m2:=hb.cell 2
  replace m3:=hb.cell 3
  replace m4:=hb.cell 4
  replace m5:=hb.cell 5
  replace m6:=hb.cell 6
  replace m7:=hb.cell 7
  replace m8:=hb.cell 8
  replace m9:=hb.cell 9
  replace m10:=hb.cell 10
  simp only[zs4,zs5]at m0 m1 m2 m3 m4 m5 m6 m7 m8 m9 m10
  replace lhb:=hb.lt
  go_wp2_with fail
  refine(H1.out _).mono ?_
  rintro e w1⟨rfl,hq1⟩
  have hs1:Q w w1:=Q.trans bt hq1
  have hQ1:Q w w1:=Q.trans hQ0 hs1
  replace hb:=hb.keep hs1 hb.lt
  replace m0:=hb.cell 0
  replace m1:=hb.cell 1
  replace m2:=hb.cell 2
  replace m3:=hb.cell 3
  replace m4:=hb.cell 4
  replace m5:=hb.cell 5
  replace m6:=hb.cell 6
  replace m7:=hb.cell 7
  replace m8:=hb.cell 8
  replace m9:=hb.cell 9
  replace m10:=hb.cell 10
  simp only[zs4,zs5]at m0 m1 m2 m3 m4 m5 m6 m7 m8 m9 m10
  replace lhb:=hb.lt
  go_wp2
  go_ret
  exact⟨rfl,bt⟩
theorem zou(n:Int)(hn:n.natAbs<100000000000000000)(w:World)(hE:Env w) :
  Calls Tryz.prog 14 #[.int .i64 n] w fun e w'=>e=.returned (.string ⟨(ze (n:Rat)).toArray⟩)∧Q w w':=by
 have HO:=LH (fun w hw=>zal n 1 (by decide) hn (by decide) w hw)
 rw[zfu]at HO
 generalize ze (n:Rat)=S at *
 go_enter Tryz.func14,Tryz.ntmps14
 have hQ0:=Q.refl w
 go_wp2_with fail
 refine(HO.out _ (hE.ofQ bt)).mono ?_
 rintro e w1⟨rfl,hq1⟩
 have hs1:Q w w1:=Q.trans bt hq1
 have hQ1:Q w w1:=Q.trans hQ0 hs1
 go_wp2
 go_ret
 exact⟨rfl,bt⟩
def grP(R:List (List Sd)):Bool:=decide (40<R.length) || (decide (40<zX R) || (decide (8<zX R) && decide (zX R≤24)))
theorem zkk{R:List (List Sd)}{M:Nat}(h:∀ r∈R,r.length≤M):∀ k,k≤R.length→zg7 R k≤k*M
 | 0,_=>by unfold zg7;simp
 | k+1,hk=>by
  have ih:=zkk h k (by omega)
  have h1:=h _ (List.getElem_mem (show k<R.length by omega))
  rw[zg1 (by omega),zaw (by omega),Nat.succ_mul]
  omega
theorem zrK{R:List (List Sd)}(h:R.length≤40):grP R=(decide (40<zX R) || (decide (8<zX R) && decide (zX R≤24))):=by
 unfold grP
 rw[decide_eq_false (by omega),Bool.false_or]
theorem zqJ{R:List (List Sd)}(h:40<R.length):grP R=true:=by
 unfold grP
 rw[decide_eq_true h,Bool.true_or]
theorem zrc{R:List (List Sd)}(h:grP R=false):R.length≤40∧zX R≤40:=by
 unfold grP at h
 simp only[Bool.or_eq_false_iff,decide_eq_false_iff_not]at h
 obtain⟨h1,h2,-⟩:=h
 omega
theorem zmM(R:List (List Sd))(hn:R.length≤8796093022208)(hln:∀ r∈R,r.length≤8796093022208)(v:Value)(w:World)(hv:zfk w v R) :
  Calls Tryz.prog 64 #[.agg #[v],.int .i64 8] w fun e w'=>e=.returned (.bool (grP R))∧Q w w':=by
 have HC0:Hid (∀ k,k<R.length→∃ a cap b o a2 c2,v=.slice a R.length cap∧a=some ⟨b,o,none⟩∧w.cell? ⟨b,o+k,none⟩=some (.slice a2 (ringAt R k).length c2)∧b<w.heap.size):=LH (fun k hk=>by
  obtain⟨a,cap,rfl,hc⟩:=hv
  obtain⟨b,o,vi,rfl,hb,hcell,hrs⟩:=hc k hk
  obtain⟨a2,c2,rfl,-⟩:=hrs
  rw[zaw hk]
  exact⟨_,_,_,_,_,_,rfl,rfl,hcell,hb⟩)
 have HS1:Hid (∀ k,k<R.length→zg7 R (k+1)=zg7 R k+(ringAt R k).length):=LH (fun k hk=>zg1 hk)
 have HSl:Hid (∀ k,k≤R.length→zg7 R k≤k*8796093022208):=LH (fun k hk=>zkk hln k hk)
 have HSe:=LH (zlt R)
 have HS0:Hid (zg7 R 0=0):=LH rfl
 have HG1:=LH (zrK (R:=R))
 have HG2:=LH (zqJ (R:=R))
 generalize grP R=G at *
 obtain⟨a0,cap0,rfl,-⟩:=id hv
 have hRz:(R.length:Int)≤8796093022208:=by omega
 have B:=Blk.new w [.slice a0 R.length cap0] 24
 have hq1:Q w (w.alloc (.cells [Value.slice a0 R.length cap0].toArray 24)):=(Below.refl _ w).alloc (Nat.le_refl _) _
 have c0:=B.cell 0
 simp only[List.getElem?_cons_zero]at c0
 obtain⟨W0,hW0⟩:∃ W0,w.alloc (.cells #[Value.slice a0 R.length cap0] 24)=W0:=⟨_,rfl⟩
 have hW0':w.alloc (.cells [Value.slice a0 R.length cap0].toArray 24)=W0:=hW0
 rw[hW0']at B hq1 c0
 clear hW0' hv hn hln
 go_enter Tryz.func64,Tryz.ntmps64
 go_wp2
 clear hW0
 go_loop [5,6] (fun c i=>∃ k:Nat,k≤R.length∧i=.int .i64 k∧∃ z:Int,c=.int .i64 z∧Hid (R.length≤40→z=(zg7 R k:Nat))) (fun _ i=>R.length - (intOf i).toNat)
 case atStart=>exact⟨0,by omega,rfl,0,rfl,LH (fun _=>by rw[HS0.out];rfl)⟩
 case round =>
  obtain⟨k,hk,rfl,z,rfl,HZ⟩:=hrel
  by_cases hlt:k<R.length
  ·obtain⟨a',cap',b,o,a2,c2,he,ha,hcell,hbl⟩:=HC0.out k hlt
   injection he with he1 he2 he3
   subst he1 he3
   subst ha
   have hcell:=za hq1 hcell
   have HSk:=LH (HS1.out k hlt)
   have hp1:=HSl.out (k+1) (by omega)
   have hkz:(k:Int)<R.length:=by omega
   have hk0:(0:Int)≤k:=by omega
   by_cases hf:R.length≤40
   ·have hz:=HZ.out hf
    subst hz
    have w1i:=Go.IntWalk.i64_in ((zg7 R k:Int)+((ringAt R k).length:Int)) (by have:=HSk.out;omega)
    clear hp1 HG1 HG2 HZ
    generalize zg7 R k=p at *
    generalize (ringAt R k).length=n at *
    go_wp2
    go_round
    case rel=>exact⟨k+1,by omega,by go_num,_,rfl,LH (fun _=>by rw[HSk.out];go_num)⟩
    case measure=>simp[intOf];omega
   ·clear hp1 HG1 HG2 HZ
    generalize (ringAt R k).length=n at *
    go_wp2
    go_round
    case rel=>exact⟨k+1,by omega,by go_num,_,rfl,LH (fun h=>absurd h hf)⟩
    case measure=>simp[intOf];omega
  ·obtain rfl:k=R.length:=by omega
   clear HC0 HS1 HSl HS0 hk hlt
   by_cases hf:R.length≤40
   ·have hz:=HZ.out hf
    rw[HSe.out]at hz
    subst hz
    have hG:=HG1.out hf
    have e40:decide ((40:Int)<(R.length:Int))=false:=by rw[decide_eq_false_iff_not];omega
    have f1:decide ((8:Int)<(zX R:Int))=decide (8<zX R):=by congr 1;rw[eq_iff_iff];omega
    have f2:decide ((zX R:Int)≤24)=decide (zX R≤24):=by congr 1;rw[eq_iff_iff];omega
    have f3:decide ((40:Int)<(zX R:Int))=decide (40<zX R):=by congr 1;rw[eq_iff_iff];omega
    clear HZ HG1 HG2 HSe
    generalize zX R=cf at *
    generalize decide (8<cf)=g1 at *
    generalize decide (cf≤24)=g2 at *
    generalize decide (40<cf)=g3 at *
    cases g1 <;> cases g2 <;> cases g3
    all_goals
     subst hG
     go_wp2
     go_ret
     exact⟨rfl,hq1⟩
   ·have hG:=HG2.out (by omega)
    subst hG
    have e40:decide ((40:Int)<(R.length:Int))=true:=by rw[decide_eq_true_eq];omega
    clear HZ HG1 HG2 HSe
    obtain⟨g1,h1⟩:∃ g,decide ((8:Int)<z)=g:=⟨_,rfl⟩
    obtain⟨g2,h2⟩:∃ g,decide (z≤(24:Int))=g:=⟨_,rfl⟩
    obtain⟨g3,h3⟩:∃ g,decide ((40:Int)<z)=g:=⟨_,rfl⟩
    cases g1 <;> cases g2 <;> cases g3
    all_goals
     go_wp2
     go_ret
     exact⟨rfl,hq1⟩
end
section
open Go.RowKit Go.Shelf Kp
attribute [local go_sem] Oper.semAt_some
theorem znB(s n:Sd):zgX s n<4:=by
 unfold zgX
 split
 ·omega
 ·split
  ·omega
  ·split <;> omega
theorem Env.dirAt{w:World}(h:Env w){k:Nat}(hk:k<4):w.cell? ⟨1,k*2,none⟩=some (.bool (upF k))∧w.cell? ⟨1,k*2+1,none⟩=some (.int .i64 (zrN k)):=by
 obtain⟨t,f,hd⟩:=h.dirs
 have hc:∀ i,w.cell? ⟨1,i,none⟩=zqT[i]?:=fun i=>by simp[World.cell?,hd]
 rw[hc,hc]
 match k,hk with
 | 0,_=>exact⟨rfl,rfl⟩
 | 1,_=>exact⟨rfl,rfl⟩
 | 2,_=>exact⟨rfl,rfl⟩
 | 3,_=>exact⟨rfl,rfl⟩
theorem zdb{W:World}{b:Nat}{x y z u v:Value}(h:Blk W b [x,y,z,u,v] 76)(fn:Func)(m:Nat)(hf:fn.results=#[.cell m 76])(tmps:Array Value)(hp:tmps.getD m undef=.pointer (some ⟨b,0,none⟩)) :
  (results fn tmps).run Tryz.prog W=.ok (.agg #[x,y,z,u,v]) W:=by
 exact results_cell_row hf tmps W b _ #[x,y,z,u,v] (0,0) _ hp h Tryz.underlying76 rfl (by kernel_rfl)
theorem zqK(s n:Sd)(hs:Rgd s)(w:World)(hE:Env w) :
  Calls Tryz.prog 71 #[.agg (sdC s).toArray,.agg (sdC n).toArray] w fun e w'=>e=.returned (.agg (frC (zji s n)).toArray)∧Q w w':=by
 have HH:=LH (fun w (_:Env w)=>zlp s n w)
 have HP:=LH (fun w hw=>zal s.plate 1 (by decide) (by have:=hs.p0;have:=hs.p1;omega) (by decide) w hw)
 rw[zfu]at HP
 have HD:Hid (∀ W,Env W→W.cell? ⟨1,zgX s n*2,none⟩=some (.bool (upF (zgX s n)))∧W.cell? ⟨1,zgX s n*2+1,none⟩=some (.int .i64 (zrN (zgX s n)))):=LH (fun W hW=>hW.dirAt (znB s n))
 have hk4:=znB s n
 obtain⟨SP,hSP⟩:∃ SP,ze (if s.gable then(0:Rat)else Rat.divInt s.run s.rise)=SP:=⟨_,rfl⟩
 have H1:Hid (s.gable=true→SP=[48]):=LH (fun hg=>by rw[← hSP,if_pos hg];exact zah)
 have HN:Hid (s.gable=false→∃ k:Nat,s.rise=k∧∀ W,Env W→Calls Tryz.prog 10 #[.int .i64 s.run,.int .i64 (k:Nat)] W fun e w'=>e=.returned (.tuple #[.string ⟨SP.toArray⟩,.int .i64 0])∧Q W w'):=LH (fun hg=>by
  rw[← hSP,hg]
  have h1:=hs.n hg
  obtain⟨k,hk⟩:=Int.eq_ofNat_of_zero_le (show 0≤s.rise by omega)
  refine⟨k,hk,fun W hW=>?_⟩
  rw[hk]
  exact zal s.run k (by omega) (by omega) (by omega) W hW)
 unfold zji frC
 simp only[hSP]
 clear hSP
 generalize zgX s n=hd at *
 generalize upF hd=up at *
 generalize zrN hd=dr at *
 obtain⟨x1,y1,r1,n1,g1,p1,o1⟩:=s
 obtain⟨x2,y2,r2,n2,g2,p2,o2⟩:=n
 simp only at HN H1 HP ⊢
 clear hs
 generalize ze (p1:Rat)=PL at *
 obtain⟨co,hco⟩:∃ co,(if up=true then x1 else y1)=co:=⟨_,rfl⟩
 rw[hco]
 have hdz:(hd:Int)<4:=by omega
 have hd0:(0:Int)≤hd:=by omega
 have BS:=((Blk.new w [.int .i64 x1,.int .i64 y1,.int .i64 r1,.int .i64 n1,.bool g1,.int .i64 p1,.int .i64 o1] 36).alloc (.cells #[.int .i64 x2,.int .i64 y2,.int .i64 r2,.int .i64 n2,.bool g2,.int .i64 p2,.int .i64 o2] 36)).alloc (.cells #[.bool false,.int .i64 0,.int .i64 0,.string ⟨#[]⟩,.string ⟨#[]⟩] 76)
 have BZ:=Blk.new ((w.alloc (.cells #[.int .i64 x1,.int .i64 y1,.int .i64 r1,.int .i64 n1,.bool g1,.int .i64 p1,.int .i64 o1] 36)).alloc (.cells #[.int .i64 x2,.int .i64 y2,.int .i64 r2,.int .i64 n2,.bool g2,.int .i64 p2,.int .i64 o2] 36)) [.bool false,.int .i64 0,.int .i64 0,.string ⟨#[]⟩,.string ⟨#[]⟩] 76
 rw[World.size_alloc,World.size_alloc]at BZ
 unfold sdC at *
 simp only
 have BN:=(Blk.new (w.alloc (.cells #[.int .i64 x1,.int .i64 y1,.int .i64 r1,.int .i64 n1,.bool g1,.int .i64 p1,.int .i64 o1] 36)) [.int .i64 x2,.int .i64 y2,.int .i64 r2,.int .i64 n2,.bool g2,.int .i64 p2,.int .i64 o2] 36).alloc (.cells #[.bool false,.int .i64 0,.int .i64 0,.string ⟨#[]⟩,.string ⟨#[]⟩] 76)
 rw[World.size_alloc]at BN
 obtain⟨W0,hW0⟩:∃ W0,((w.alloc (.cells #[.int .i64 x1,.int .i64 y1,.int .i64 r1,.int .i64 n1,.bool g1,.int .i64 p1,.int .i64 o1] 36)).alloc (.cells #[.int .i64 x2,.int .i64 y2,.int .i64 r2,.int .i64 n2,.bool g2,.int .i64 p2,.int .i64 o2] 36)).alloc (.cells #[.bool false,.int .i64 0,.int .i64 0,.string ⟨#[]⟩,.string ⟨#[]⟩] 76)=W0:=⟨_,rfl⟩
 have hq0:Q w W0:=by rw[← hW0];exact bt
 have hEw:=hE.ofQ hq0
 have hs0:W0.heap.size=w.heap.size+3:=by rw[← hW0];simp
 rw[hW0]at BS BN BZ
 clear hE
 have hE:=hEw
 clear hEw
 have hQ0:=Q.refl W0
 replace s0:=BS.cell 0
 replace s1:=BS.cell 1
 replace s2:=BS.cell 2
 replace s3:=BS.cell 3
 replace s4:=BS.cell 4
 replace s5:=BS.cell 5
 replace s6:=BS.cell 6
 simp only[zs4,zs5]at s0 s1 s2 s3 s4 s5 s6
 replace lBS:=BS.lt
 replace t0:=BN.cell 0
 replace t1:=BN.cell 1
 replace t2:=BN.cell 2
 replace t3:=BN.cell 3
 replace t4:=BN.cell 4
 replace t5:=BN.cell 5
 replace t6:=BN.cell 6
 simp only[zs4,zs5]at t0 t1 t2 t3 t4 t5 t6
 replace lBN:=BN.lt
 replace z0:=BZ.cell 0
 replace z1:=BZ.cell 1
 replace z2:=BZ.cell 2
 replace z3:=BZ.cell 3
 replace z4:=BZ.cell 4
 simp only[zs4,zs5]at z0 z1 z2 z3 z4
 replace lBZ:=BZ.lt
 go_enter Tryz.func71,Tryz.ntmps71
 go_wp2_with fail
 clear hW0
 refine(HH.out _ (hE.ofQ bt)).mono ?_
 rintro e Y1⟨rfl,hq1⟩
 have hs1:Q W0 Y1:=Q.trans bt hq1
 have hQ1:Q W0 Y1:=Q.trans hQ0 hs1
 replace BS:=BS.keep hs1 BS.lt
 replace s0:=BS.cell 0
 replace s1:=BS.cell 1
 replace s2:=BS.cell 2
 replace s3:=BS.cell 3
 replace s4:=BS.cell 4
 replace s5:=BS.cell 5
 replace s6:=BS.cell 6
 simp only[zs4,zs5]at s0 s1 s2 s3 s4 s5 s6
 replace lBS:=BS.lt
 replace BN:=BN.keep hs1 BN.lt
 replace t0:=BN.cell 0
 replace t1:=BN.cell 1
 replace t2:=BN.cell 2
 replace t3:=BN.cell 3
 replace t4:=BN.cell 4
 replace t5:=BN.cell 5
 replace t6:=BN.cell 6
 simp only[zs4,zs5]at t0 t1 t2 t3 t4 t5 t6
 replace lBN:=BN.lt
 replace BZ:=BZ.keep hs1 BZ.lt
 replace z0:=BZ.cell 0
 replace z1:=BZ.cell 1
 replace z2:=BZ.cell 2
 replace z3:=BZ.cell 3
 replace z4:=BZ.cell 4
 simp only[zs4,zs5]at z0 z1 z2 z3 z4
 replace lBZ:=BZ.lt
 obtain⟨d0,d1⟩:=HD.out _ (hE.ofQ hQ1)
 clear BN lBN t0 t1 t2 t3 t4 t5 t6
 have lY:=hQ1.size
 cases up <;> cases g1
 case false.false =>
  obtain rfl:y1=co:=hco
  have F:=Blk.new (Y1.alloc (.cells #[.bool false,.int .i64 dr] 196)) [.bool false,.int .i64 y1,.int .i64 dr,.string ⟨#[48]⟩,.string ⟨#[]⟩] 76
  rw[World.size_alloc]at F
  obtain⟨k,rfl,hN⟩:=HN.out rfl
  have HO:=LH hN
  clear hN
  clear HN HD HH H1
  have F1:=F
  clear F
  have BS1:=BS
  have BZ1:=BZ
  go_wp2_with fail
  refine(HO.out _ (hE.ofQ bt)).mono ?_
  rintro e Y2⟨rfl,hq2⟩
  have hs2:Q Y1 Y2:=Q.trans bt hq2
  replace BS:=BS.keep hs2 BS.lt
  replace BZ:=BZ.keep hs2 BZ.lt
  replace s0:=BS.cell 0
  replace s1:=BS.cell 1
  replace s2:=BS.cell 2
  replace s3:=BS.cell 3
  replace s4:=BS.cell 4
  replace s5:=BS.cell 5
  replace s6:=BS.cell 6
  replace z0:=BZ.cell 0
  replace z1:=BZ.cell 1
  replace z2:=BZ.cell 2
  replace z3:=BZ.cell 3
  replace z4:=BZ.cell 4
  simp only[zs4,zs5]at s0 s1 s2 s3 s4 s5 s6 z0 z1 z2 z3 z4
  replace F1:=F1.keep hq2 F1.lt
  have f0:=F1.cell 0
  have f1:=F1.cell 1
  have f2:=F1.cell 2
  have f3:=F1.cell 3
  have f4:=F1.cell 4
  simp only[zs4,zs5]at f0 f1 f2 f3 f4
  have g3:=F1.frozen 3
  have F2:=F1.set 3 (.string ⟨SP.toArray⟩)
  simp only[List.set_cons_zero,List.set_cons_succ]at F2
  clear HO
  clear F1
  go_wp2_with fail
  clear f0 f1 f2 f3 f4 g3
  have hB2:Below Y1.heap.size Y1 (Y2.setCell ⟨Y1.heap.size+1,3,none⟩ (.string ⟨SP.toArray⟩)):=hs2.setCell (p:=⟨Y1.heap.size+1,3,none⟩) (by simp) _
  have hQ2s:Q W0 (Y2.setCell ⟨Y1.heap.size+1,3,none⟩ (.string ⟨SP.toArray⟩)):=Below.trans hQ1 (hB2.mono lY)
  refine(HP.out _ (hE.ofQ hQ2s)).mono ?_
  rintro e Y3⟨rfl,hq3⟩
  have hB3:Below Y1.heap.size Y1 Y3:=Below.trans hB2 (hq3.mono hB2.size)
  have hQ3:Q W0 Y3:=Below.trans hQ1 (hB3.mono lY)
  replace BS:=BS1.keep hB3 BS1.lt
  replace BZ:=BZ1.keep hB3 BZ1.lt
  replace s0:=BS.cell 0
  replace s1:=BS.cell 1
  replace s2:=BS.cell 2
  replace s3:=BS.cell 3
  replace s4:=BS.cell 4
  replace s5:=BS.cell 5
  replace s6:=BS.cell 6
  replace z0:=BZ.cell 0
  replace z1:=BZ.cell 1
  replace z2:=BZ.cell 2
  replace z3:=BZ.cell 3
  replace z4:=BZ.cell 4
  simp only[zs4,zs5]at s0 s1 s2 s3 s4 s5 s6 z0 z1 z2 z3 z4
  clear BS1 BZ1 hB2 hQ2s
  replace F2:=F2.keep hq3 F2.lt
  have f0:=F2.cell 0
  have f1:=F2.cell 1
  have f2:=F2.cell 2
  have f3:=F2.cell 3
  have f4:=F2.cell 4
  simp only[zs4,zs5]at f0 f1 f2 f3 f4
  have g4:=F2.frozen 4
  have k0:=BZ.frozen 0
  have k1:=BZ.frozen 1
  have k2:=BZ.frozen 2
  have k3:=BZ.frozen 3
  have k4:=BZ.frozen 4
  have hne:Y1.heap.size+1≠w.heap.size+1+1:=by omega
  have hne2:w.heap.size+1+1≠Y1.heap.size+1:=by omega
  have hy:w.heap.size≤Y1.heap.size+1:=by omega
  have hy2:w.heap.size≤w.heap.size+1+1:=by omega
  generalize Y1.heap.size+1=bf at *
  generalize w.heap.size+1+1=bz at *
  have Z:=((((((BZ.setOther hne 4 (.string ⟨PL.toArray⟩)).set 0 (.bool false)).set 1 (.int .i64 y1)).set 2 (.int .i64 dr)).set 3 (.string ⟨SP.toArray⟩)).set 4 (.string ⟨PL.toArray⟩))
  simp only[List.set_cons_zero,List.set_cons_succ]at Z
  have hQe:=((((((Q.trans hq0 hQ3).setCell (p:=⟨bf,4,none⟩) hy (.string ⟨PL.toArray⟩)).setCell (p:=⟨bz,0,none⟩) hy2 (.bool false)).setCell (p:=⟨bz,1,none⟩) hy2 (.int .i64 y1)).setCell (p:=⟨bz,2,none⟩) hy2 (.int .i64 dr)).setCell (p:=⟨bz,3,none⟩) hy2 (.string ⟨SP.toArray⟩)).setCell (p:=⟨bz,4,none⟩) hy2 (.string ⟨PL.toArray⟩)
  clear HP F2
  have HR:=zdb Z
  go_wp2_with (exact bodyPost_ret (HR Tryz.f71 4 rfl _ rfl) rfl ⟨rfl,hQe⟩)
 case false.true =>
  obtain rfl:y1=co:=hco
  have F:=Blk.new (Y1.alloc (.cells #[.bool false,.int .i64 dr] 196)) [.bool false,.int .i64 y1,.int .i64 dr,.string ⟨#[48]⟩,.string ⟨#[]⟩] 76
  rw[World.size_alloc]at F
  obtain rfl:=H1.out rfl
  clear HN HD HH H1
  have F1:=F
  clear F
  have F2:=F1
  clear F1
  go_wp2_with fail
  refine(HP.out _ (hE.ofQ bt)).mono ?_
  rintro e Y3⟨rfl,hq3⟩
  have hB3:Q Y1 Y3:=Q.trans bt hq3
  have hQ3:Q W0 Y3:=Q.trans hQ1 hB3
  replace BS:=BS.keep hB3 BS.lt
  replace BZ:=BZ.keep hB3 BZ.lt
  replace s0:=BS.cell 0
  replace s1:=BS.cell 1
  replace s2:=BS.cell 2
  replace s3:=BS.cell 3
  replace s4:=BS.cell 4
  replace s5:=BS.cell 5
  replace s6:=BS.cell 6
  replace z0:=BZ.cell 0
  replace z1:=BZ.cell 1
  replace z2:=BZ.cell 2
  replace z3:=BZ.cell 3
  replace z4:=BZ.cell 4
  simp only[zs4,zs5]at s0 s1 s2 s3 s4 s5 s6 z0 z1 z2 z3 z4
  replace F2:=F2.keep hq3 F2.lt
  have f0:=F2.cell 0
  have f1:=F2.cell 1
  have f2:=F2.cell 2
  have f3:=F2.cell 3
  have f4:=F2.cell 4
  simp only[zs4,zs5]at f0 f1 f2 f3 f4
  have g4:=F2.frozen 4
  have k0:=BZ.frozen 0
  have k1:=BZ.frozen 1
  have k2:=BZ.frozen 2
  have k3:=BZ.frozen 3
  have k4:=BZ.frozen 4
  have hne:Y1.heap.size+1≠w.heap.size+1+1:=by omega
  have hne2:w.heap.size+1+1≠Y1.heap.size+1:=by omega
  have hy:w.heap.size≤Y1.heap.size+1:=by omega
  have hy2:w.heap.size≤w.heap.size+1+1:=by omega
  generalize Y1.heap.size+1=bf at *
  generalize w.heap.size+1+1=bz at *
  have Z:=((((((BZ.setOther hne 4 (.string ⟨PL.toArray⟩)).set 0 (.bool false)).set 1 (.int .i64 y1)).set 2 (.int .i64 dr)).set 3 (.string ⟨#[48]⟩)).set 4 (.string ⟨PL.toArray⟩))
  simp only[List.set_cons_zero,List.set_cons_succ]at Z
  have hQe:=((((((Q.trans hq0 hQ3).setCell (p:=⟨bf,4,none⟩) hy (.string ⟨PL.toArray⟩)).setCell (p:=⟨bz,0,none⟩) hy2 (.bool false)).setCell (p:=⟨bz,1,none⟩) hy2 (.int .i64 y1)).setCell (p:=⟨bz,2,none⟩) hy2 (.int .i64 dr)).setCell (p:=⟨bz,3,none⟩) hy2 (.string ⟨#[48]⟩)).setCell (p:=⟨bz,4,none⟩) hy2 (.string ⟨PL.toArray⟩)
  clear HP F2
  have HR:=zdb Z
  go_wp2_with (exact bodyPost_ret (HR Tryz.f71 4 rfl _ rfl) rfl ⟨rfl,hQe⟩)
 case true.false =>
  obtain rfl:x1=co:=hco
  have F:=Blk.new (Y1.alloc (.cells #[.bool true,.int .i64 dr] 196)) [.bool true,.int .i64 x1,.int .i64 dr,.string ⟨#[48]⟩,.string ⟨#[]⟩] 76
  rw[World.size_alloc]at F
  obtain⟨k,rfl,hN⟩:=HN.out rfl
  have HO:=LH hN
  clear hN
  clear HN HD HH H1
  have F1:=F
  clear F
  have BS1:=BS
  have BZ1:=BZ
  go_wp2_with fail
  refine(HO.out _ (hE.ofQ bt)).mono ?_
  rintro e Y2⟨rfl,hq2⟩
  have hs2:Q Y1 Y2:=Q.trans bt hq2
  replace BS:=BS.keep hs2 BS.lt
  replace BZ:=BZ.keep hs2 BZ.lt
  replace s0:=BS.cell 0
  replace s1:=BS.cell 1
  replace s2:=BS.cell 2
  replace s3:=BS.cell 3
  replace s4:=BS.cell 4
  replace s5:=BS.cell 5
  replace s6:=BS.cell 6
  replace z0:=BZ.cell 0
  replace z1:=BZ.cell 1
  replace z2:=BZ.cell 2
  replace z3:=BZ.cell 3
  replace z4:=BZ.cell 4
  simp only[zs4,zs5]at s0 s1 s2 s3 s4 s5 s6 z0 z1 z2 z3 z4
  replace F1:=F1.keep hq2 F1.lt
  have f0:=F1.cell 0
  have f1:=F1.cell 1
  have f2:=F1.cell 2
  have f3:=F1.cell 3
  have f4:=F1.cell 4
  simp only[zs4,zs5]at f0 f1 f2 f3 f4
  have g3:=F1.frozen 3
  have F2:=F1.set 3 (.string ⟨SP.toArray⟩)
  simp only[List.set_cons_zero,List.set_cons_succ]at F2
  clear HO
  clear F1
  go_wp2_with fail
  clear f0 f1 f2 f3 f4 g3
  have hB2:Below Y1.heap.size Y1 (Y2.setCell ⟨Y1.heap.size+1,3,none⟩ (.string ⟨SP.toArray⟩)):=hs2.setCell (p:=⟨Y1.heap.size+1,3,none⟩) (by simp) _
  have hQ2s:Q W0 (Y2.setCell ⟨Y1.heap.size+1,3,none⟩ (.string ⟨SP.toArray⟩)):=Below.trans hQ1 (hB2.mono lY)
  refine(HP.out _ (hE.ofQ hQ2s)).mono ?_
  rintro e Y3⟨rfl,hq3⟩
  have hB3:Below Y1.heap.size Y1 Y3:=Below.trans hB2 (hq3.mono hB2.size)
  have hQ3:Q W0 Y3:=Below.trans hQ1 (hB3.mono lY)
  replace BS:=BS1.keep hB3 BS1.lt
  replace BZ:=BZ1.keep hB3 BZ1.lt
  replace s0:=BS.cell 0
  replace s1:=BS.cell 1
  replace s2:=BS.cell 2
  replace s3:=BS.cell 3
  replace s4:=BS.cell 4
  replace s5:=BS.cell 5
  replace s6:=BS.cell 6
  replace z0:=BZ.cell 0
  replace z1:=BZ.cell 1
  replace z2:=BZ.cell 2
  replace z3:=BZ.cell 3
  replace z4:=BZ.cell 4
  simp only[zs4,zs5]at s0 s1 s2 s3 s4 s5 s6 z0 z1 z2 z3 z4
  clear BS1 BZ1 hB2 hQ2s
  replace F2:=F2.keep hq3 F2.lt
  have f0:=F2.cell 0
  have f1:=F2.cell 1
  have f2:=F2.cell 2
  have f3:=F2.cell 3
  have f4:=F2.cell 4
  simp only[zs4,zs5]at f0 f1 f2 f3 f4
  have g4:=F2.frozen 4
  have k0:=BZ.frozen 0
  have k1:=BZ.frozen 1
  have k2:=BZ.frozen 2
  have k3:=BZ.frozen 3
  have k4:=BZ.frozen 4
  have hne:Y1.heap.size+1≠w.heap.size+1+1:=by omega
  have hne2:w.heap.size+1+1≠Y1.heap.size+1:=by omega
  have hy:w.heap.size≤Y1.heap.size+1:=by omega
  have hy2:w.heap.size≤w.heap.size+1+1:=by omega
  generalize Y1.heap.size+1=bf at *
  generalize w.heap.size+1+1=bz at *
  have Z:=((((((BZ.setOther hne 4 (.string ⟨PL.toArray⟩)).set 0 (.bool true)).set 1 (.int .i64 x1)).set 2 (.int .i64 dr)).set 3 (.string ⟨SP.toArray⟩)).set 4 (.string ⟨PL.toArray⟩))
  simp only[List.set_cons_zero,List.set_cons_succ]at Z
  have hQe:=((((((Q.trans hq0 hQ3).setCell (p:=⟨bf,4,none⟩) hy (.string ⟨PL.toArray⟩)).setCell (p:=⟨bz,0,none⟩) hy2 (.bool true)).setCell (p:=⟨bz,1,none⟩) hy2 (.int .i64 x1)).setCell (p:=⟨bz,2,none⟩) hy2 (.int .i64 dr)).setCell (p:=⟨bz,3,none⟩) hy2 (.string ⟨SP.toArray⟩)).setCell (p:=⟨bz,4,none⟩) hy2 (.string ⟨PL.toArray⟩)
  clear HP F2
  have HR:=zdb Z
  go_wp2_with (exact bodyPost_ret (HR Tryz.f71 4 rfl _ rfl) rfl ⟨rfl,hQe⟩)
 case true.true =>
  obtain rfl:x1=co:=hco
  have F:=Blk.new (Y1.alloc (.cells #[.bool true,.int .i64 dr] 196)) [.bool true,.int .i64 x1,.int .i64 dr,.string ⟨#[48]⟩,.string ⟨#[]⟩] 76
  rw[World.size_alloc]at F
  obtain rfl:=H1.out rfl
  clear HN HD HH H1
  have F1:=F
  clear F
  have F2:=F1
  clear F1
  go_wp2_with fail
  refine(HP.out _ (hE.ofQ bt)).mono ?_
  rintro e Y3⟨rfl,hq3⟩
  have hB3:Q Y1 Y3:=Q.trans bt hq3
  have hQ3:Q W0 Y3:=Q.trans hQ1 hB3
  replace BS:=BS.keep hB3 BS.lt
  replace BZ:=BZ.keep hB3 BZ.lt
  replace s0:=BS.cell 0
  replace s1:=BS.cell 1
  replace s2:=BS.cell 2
  replace s3:=BS.cell 3
  replace s4:=BS.cell 4
  replace s5:=BS.cell 5
  replace s6:=BS.cell 6
  replace z0:=BZ.cell 0
  replace z1:=BZ.cell 1
  replace z2:=BZ.cell 2
  replace z3:=BZ.cell 3
  replace z4:=BZ.cell 4
  simp only[zs4,zs5]at s0 s1 s2 s3 s4 s5 s6 z0 z1 z2 z3 z4
  replace F2:=F2.keep hq3 F2.lt
  have f0:=F2.cell 0
  have f1:=F2.cell 1
  have f2:=F2.cell 2
  have f3:=F2.cell 3
  have f4:=F2.cell 4
  simp only[zs4,zs5]at f0 f1 f2 f3 f4
  have g4:=F2.frozen 4
  have k0:=BZ.frozen 0
  have k1:=BZ.frozen 1
  have k2:=BZ.frozen 2
  have k3:=BZ.frozen 3
  have k4:=BZ.frozen 4
  have hne:Y1.heap.size+1≠w.heap.size+1+1:=by omega
  have hne2:w.heap.size+1+1≠Y1.heap.size+1:=by omega
  have hy:w.heap.size≤Y1.heap.size+1:=by omega
  have hy2:w.heap.size≤w.heap.size+1+1:=by omega
  generalize Y1.heap.size+1=bf at *
  generalize w.heap.size+1+1=bz at *
  have Z:=((((((BZ.setOther hne 4 (.string ⟨PL.toArray⟩)).set 0 (.bool true)).set 1 (.int .i64 x1)).set 2 (.int .i64 dr)).set 3 (.string ⟨#[48]⟩)).set 4 (.string ⟨PL.toArray⟩))
  simp only[List.set_cons_zero,List.set_cons_succ]at Z
  have hQe:=((((((Q.trans hq0 hQ3).setCell (p:=⟨bf,4,none⟩) hy (.string ⟨PL.toArray⟩)).setCell (p:=⟨bz,0,none⟩) hy2 (.bool true)).setCell (p:=⟨bz,1,none⟩) hy2 (.int .i64 x1)).setCell (p:=⟨bz,2,none⟩) hy2 (.int .i64 dr)).setCell (p:=⟨bz,3,none⟩) hy2 (.string ⟨#[48]⟩)).setCell (p:=⟨bz,4,none⟩) hy2 (.string ⟨PL.toArray⟩)
  clear HP F2
  have HR:=zdb Z
  go_wp2_with (exact bodyPost_ret (HR Tryz.f71 4 rfl _ rfl) rfl ⟨rfl,hQe⟩)
end
end Go.Proofs.YtbpghkdadajomaaGreatDoor
