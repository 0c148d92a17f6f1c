/-
  Walks of package front: Check, start, Distance.; Walks of package joint: what is known of a rafter at an eaves of a plan.
-/
import Derived.Test.YtdecodpgdainiaaGreatDoorH22
import Derived.Test.YtdecodpgdainiaaGreatDoorH16
set_option maxRecDepth 100000
set_option maxHeartbeats 8000000
namespace Go.Proofs.YtdecodpgdainiaaGreatDoor
section
open Go.RowKit Go.Shelf Kp
attribute [local go_sem] Oper.semAt_some
theorem Bd.opp{n:Nat}{y:Rat}(h:Bd n y):Bd n (-y):=⟨by show (-y.num).natAbs<_;rw[Int.natAbs_neg];exact h.1,h.2⟩
theorem Bd.less{m n:Nat}{x y:Rat}(hx:Bd m x)(hy:Bd n y):Bd (m+n+1) (x - y):=by
 rw[Rat.sub_eq_add_neg]
 exact hx.add hy.opp
theorem znR(f:Fr)(h:FrOk f)(w:World)(hE:Env w) :
  CR 189 #[.agg (frC f).toArray] w (.int .i64 0):=by
 have HS:=LH (fun w hw=>zO f.speed (h.s.zak (by decide)) w hw)
 have HT:=LH (fun w hw=>zO f.start (h.p.zak (by decide)) w hw)
 have HU:=LH (fun w hw=>zdM f.speed (h.s.mono (by decide)) w hw)
 have HV:=LH (fun w hw=>zdM f.start (h.p.mono (by decide)) w hw)
 have HP:=LH (fun w=>zU (za f.speed) w)
 have hneg:decide ((za f.speed).head? = some 45)=false:=by rw[decide_eq_false_iff_not,zdh];have:=h.s0;omega
 rw[hneg]at HP
 have hd:=h.d
 have h0:=h.c0
 have h1:=h.c1
 clear h hneg
 unfold frC
 generalize za f.speed=S at *
 generalize za f.start=T at *
 obtain⟨up,co,dr,sp,st⟩:=f
 simp only at h0 h1 hd ⊢
 have e1:decide (co<0)=false:=by rw[decide_eq_false_iff_not];omega
 have e2:decide ((65536:Int)<co)=false:=by rw[decide_eq_false_iff_not];omega
 have B:=(Blk.new w [.bool up,.int .i64 co,.int .i64 dr,.string ⟨S.toArray⟩,.string ⟨T.toArray⟩] 165).alloc (.cells #[.string ⟨S.toArray⟩,.string ⟨T.toArray⟩] 22)
 have N:=Blk.new (w.alloc (.cells #[.bool up,.int .i64 co,.int .i64 dr,.string ⟨S.toArray⟩,.string ⟨T.toArray⟩] 165)) [.string ⟨S.toArray⟩,.string ⟨T.toArray⟩] 22
 rw[World.size_alloc]at N
 obtain⟨W0,hW0⟩:∃ W0,(w.alloc (.cells #[.bool up,.int .i64 co,.int .i64 dr,.string ⟨S.toArray⟩,.string ⟨T.toArray⟩] 165)).alloc (.cells #[.string ⟨S.toArray⟩,.string ⟨T.toArray⟩] 22)=W0:=⟨_,rfl⟩
 have hq0:Q w W0:=by rw[← hW0];exact bt
 have hEw:=hE.ofQ hq0
 rw[hW0]at B N
 clear hE
 have hE:=hEw
 clear hEw
 rcases hd with rfl | rfl
 all_goals
  have hQ0:=Q.refl W0
  replace b0:=B.cell
  replace lB:=B.lt
  replace n0:=N.cell
  replace lN:=N.lt
  go_enter Tryz.func189,Tryz.ntmps189
  go_wp2
  refine wp_loop_rounds 3 ?_
  rw[rounds_succ]
  clear hW0
  go_wp2_with fail
  refine cx (HS.out _ (hE.ofQ bt)) fun Y1 hq1=>?_
  have hs1:Q W0 Y1:=Q.trans bt hq1
  have hQ1:Q W0 Y1:=Q.trans hQ0 hs1
  replace B:=B.keep hs1 B.lt
  replace b0:=B.cell
  replace lB:=B.lt
  replace N:=N.keep hs1 N.lt
  replace n0:=N.cell
  replace lN:=N.lt
  go_wp2
  rw[rounds_succ]
  go_wp2_with fail
  refine cx (HT.out _ (hE.ofQ bt)) fun Y2 hq2=>?_
  have hs2:Q Y1 Y2:=Q.trans bt hq2
  have hQ2:Q W0 Y2:=Q.trans hQ1 hs2
  replace B:=B.keep hs2 B.lt
  replace b0:=B.cell
  replace lB:=B.lt
  replace N:=N.keep hs2 N.lt
  replace n0:=N.cell
  replace lN:=N.lt
  go_wp2
  rw[rounds_succ]
  clear N lN n0
  obtain⟨W2,hW2⟩:∃ W2,Y2.alloc (.cells #[.string ⟨S.toArray⟩,.string ⟨T.toArray⟩] 22)=W2:=⟨_,rfl⟩
  have N:=Blk.new Y2 [.string ⟨S.toArray⟩,.string ⟨T.toArray⟩] 22
  have N:Blk W2 Y2.heap.size [.string ⟨S.toArray⟩,.string ⟨T.toArray⟩] 22:=by rw[← hW2];exact N
  have hqW:Q Y2 W2:=by rw[← hW2];exact bt
  have hE2:=hE.ofQ (Q.trans hQ2 hqW)
  have hQW:=Q.trans hQ2 hqW
  have bb3:=B.cell
  replace B:=B.keep hqW B.lt
  clear hE
  have hE:=hE2
  clear hE2
  have hQ0:=Q.refl W2
  replace b0:=B.cell
  replace lB:=B.lt
  replace n0:=N.cell
  replace lN:=N.lt
  go_wp2
  refine wp_loop_rounds 3 ?_
  rw[rounds_succ]
  clear hW2
  go_wp2_with fail
  refine cx (HU.out _ (hE.ofQ bt)) fun Z1 hq1=>?_
  have hs1:Q W2 Z1:=Q.trans bt hq1
  have hQ1:Q W2 Z1:=Q.trans hQ0 hs1
  replace B:=B.keep hs1 B.lt
  replace b0:=B.cell
  replace lB:=B.lt
  replace N:=N.keep hs1 N.lt
  replace n0:=N.cell
  replace lN:=N.lt
  go_wp2
  rw[rounds_succ]
  go_wp2_with fail
  refine cx (HV.out _ (hE.ofQ bt)) fun Z2 hq2=>?_
  have hs2:Q Z1 Z2:=Q.trans bt hq2
  have hQ2:Q W2 Z2:=Q.trans hQ1 hs2
  replace B:=B.keep hs2 B.lt
  replace b0:=B.cell
  replace lB:=B.lt
  replace N:=N.keep hs2 N.lt
  replace n0:=N.cell
  replace lN:=N.lt
  go_wp2
  rw[rounds_succ]
  go_wp2_with fail
  refine(HP.out _).mono ?_
  rintro e w9⟨rfl,rfl⟩
  have hQe:Q w Z2:=Q.trans hq0 (Q.trans hQW hQ2)
  go_wp2
  go_ret
  exact⟨rfl,hQe⟩
theorem znQ(f:Fr)(h:FrOk f)(x y:Rat)(hx:Bd 36 x)(hy:Bd 36 y)(b c:Nat)(w:World)(hE:Env w)(hb:Blk w b [.string ⟨(za x).toArray⟩,.string ⟨(za y).toArray⟩] 22) :
  CR 139 #[.agg (frC f).toArray,.slice (some ⟨b,0,none⟩) 2 c] w (.int .i64 0):=by
 have HC:=LH (fun w hw=>znR f h w hw)
 have HX:=LH (fun w hw=>zdM x hx w hw)
 have HY:=LH (fun w hw=>zdM y hy w hw)
 clear h hx hy
 unfold frC at *
 generalize za f.speed=S at *
 generalize za f.start=T at *
 generalize za x=X at *
 generalize za y=Y at *
 obtain⟨up,co,dr,sp,st⟩:=f
 simp only at HC ⊢
 have B:=Blk.new w [.bool up,.int .i64 co,.int .i64 dr,.string ⟨S.toArray⟩,.string ⟨T.toArray⟩] 165
 have N:=hb.alloc (.cells #[.bool up,.int .i64 co,.int .i64 dr,.string ⟨S.toArray⟩,.string ⟨T.toArray⟩] 165)
 obtain⟨W0,hW0⟩:∃ W0,w.alloc (.cells #[.bool up,.int .i64 co,.int .i64 dr,.string ⟨S.toArray⟩,.string ⟨T.toArray⟩] 165)=W0:=⟨_,rfl⟩
 have hq0:Q w W0:=by rw[← hW0];exact bt
 have hEw:=hE.ofQ hq0
 have B:Blk W0 w.heap.size [.bool up,.int .i64 co,.int .i64 dr,.string ⟨S.toArray⟩,.string ⟨T.toArray⟩] 165:=by rw[← hW0];exact B
 rw[hW0]at N
 clear hE hb
 have hE:=hEw
 clear hEw
 have hQ0:=Q.refl W0
 replace b0:=B.cell
 replace lB:=B.lt
 replace n0:=N.cell
 replace lN:=N.lt
 go_enter Tryz.func139,Tryz.ntmps139
 go_wp2_with fail
 clear hW0
 go_wp2_with fail
 refine cx (HC.out _ (hE.ofQ bt)) fun Y1 hq1=>?_
 have hs1:Q W0 Y1:=Q.trans bt hq1
 have hQ1:Q W0 Y1:=Q.trans hQ0 hs1
 replace B:=B.keep hs1 B.lt
 replace b0:=B.cell
 replace lB:=B.lt
 replace N:=N.keep hs1 N.lt
 replace n0:=N.cell
 replace lN:=N.lt
 go_wp2
 refine wp_loop_rounds 3 ?_
 rw[rounds_succ]
 go_wp2_with fail
 refine cx (HX.out _ (hE.ofQ bt)) fun Y2 hq2=>?_
 have hs2:Q Y1 Y2:=Q.trans bt hq2
 have hQ2:Q W0 Y2:=Q.trans hQ1 hs2
 replace B:=B.keep hs2 B.lt
 replace b0:=B.cell
 replace lB:=B.lt
 replace N:=N.keep hs2 N.lt
 replace n0:=N.cell
 replace lN:=N.lt
 go_wp2
 rw[rounds_succ]
 go_wp2_with fail
 refine cx (HY.out _ (hE.ofQ bt)) fun Y3 hq3=>?_
 have hs3:Q Y2 Y3:=Q.trans bt hq3
 have hQ3:Q W0 Y3:=Q.trans hQ2 hs3
 replace B:=B.keep hs3 B.lt
 replace b0:=B.cell
 replace lB:=B.lt
 replace N:=N.keep hs3 N.lt
 replace n0:=N.cell
 replace lN:=N.lt
 go_wp2
 rw[rounds_succ]
 have hQe:=Q.trans hq0 hQ3
 go_wp2
 go_ret
 exact⟨rfl,hQe⟩
theorem zfI(f:Fr)(h:FrOk f)(x y:Rat)(hx:Bd 30 x)(hy:Bd 30 y)(w:World)(hE:Env w) :
  CR 91 #[.agg (frC f).toArray,.agg #[.string ⟨(za x).toArray⟩,.string ⟨(za y).toArray⟩]] w (.tuple #[.string ⟨(za (zmX f x y)).toArray⟩,.int .i64 0]):=by
 have HT:=LH (fun b c w hw hb=>znQ f h x y (hx.mono (by decide)) (hy.mono (by decide)) b c w hw hb)
 have hd1:f.dir.natAbs<10 ^ 1:=by rcases h.d with e | e <;> rw[e] <;> decide
 have hc1:f.coord.natAbs<10 ^ 5:=by have:=h.c0;have:=h.c1;omega
 have HD:=LH (fun w hw=>zjH f.dir (by omega) w hw)
 have HC:=LH (fun w hw=>zjH f.coord (by omega) w hw)
 have bd:=zfM hd1 (by decide)
 have bc:=zfM hc1 (by decide)
 obtain⟨z,hz⟩:∃ z,(if f.up then x else y)=z:=⟨_,rfl⟩
 have bz:Bd 30 z:=by rw[← hz];split <;> assumption
 have HS:=LH (fun w hw=>zq2 z (f.coord:Rat) bz bc (by decide) w hw)
 have HM:=LH (fun w hw=>zq3 (f.dir:Rat) (z - (f.coord:Rat)) bd (bz.less bc) (by decide) w hw)
 unfold zmX
 rw[hz]
 have hst:za z=if f.up then za x else za y:=by rw[← hz];split <;> rfl
 unfold frC at *
 generalize za ((f.dir:Rat)*(z - (f.coord:Rat)))=R4 at *
 generalize za (z - (f.coord:Rat))=R3 at *
 generalize za (f.dir:Rat)=R1 at *
 generalize za (f.coord:Rat)=R2 at *
 generalize za z=ZZ at *
 generalize za f.speed=S at *
 generalize za f.start=T at *
 generalize za x=X at *
 generalize za y=YY at *
 clear bd bc bz hz hd1 hc1 h hx hy
 obtain⟨up,co,dr,sp,st⟩:=f
 simp only at HT HD HC hst ⊢
 have B:=((Blk.new w [.bool up,.int .i64 co,.int .i64 dr,.string ⟨S.toArray⟩,.string ⟨T.toArray⟩] 165).alloc (.cells #[.string ⟨X.toArray⟩,.string ⟨YY.toArray⟩] 167)).alloc (.cells #[.string ⟨X.toArray⟩,.string ⟨YY.toArray⟩] 22)
 have P:=(Blk.new1 w (.cells #[.bool up,.int .i64 co,.int .i64 dr,.string ⟨S.toArray⟩,.string ⟨T.toArray⟩] 165) [.string ⟨X.toArray⟩,.string ⟨YY.toArray⟩] 167).alloc (.cells #[.string ⟨X.toArray⟩,.string ⟨YY.toArray⟩] 22)
 have N:=Blk.new2 w (.cells #[.bool up,.int .i64 co,.int .i64 dr,.string ⟨S.toArray⟩,.string ⟨T.toArray⟩] 165) (.cells #[.string ⟨X.toArray⟩,.string ⟨YY.toArray⟩] 167) [.string ⟨X.toArray⟩,.string ⟨YY.toArray⟩] 22
 obtain⟨W0,hW0⟩:∃ W0,((w.alloc (.cells #[.bool up,.int .i64 co,.int .i64 dr,.string ⟨S.toArray⟩,.string ⟨T.toArray⟩] 165)).alloc (.cells #[.string ⟨X.toArray⟩,.string ⟨YY.toArray⟩] 167)).alloc (.cells #[.string ⟨X.toArray⟩,.string ⟨YY.toArray⟩] 22)=W0:=⟨_,rfl⟩
 have hq0:Q w W0:=by rw[← hW0];exact bt
 have hEw:=hE.ofQ hq0
 have N:Blk W0 (w.heap.size+2) [.string ⟨X.toArray⟩,.string ⟨YY.toArray⟩] 22:=by rw[← hW0];exact N
 rw[hW0]at B P
 clear hE
 have hE:=hEw
 clear hEw
 have HT2:=LH (fun c W (hq:Q W0 W)=>HT.out (w.heap.size+2) c W (hE.ofQ hq) (N.keep hq N.lt))
 clear HT
 cases up
 all_goals
  simp only[if_true,Bool.false_eq_true,if_false]at hst
  subst hst
  have hQ0:=Q.refl W0
  replace b0:=B.cell 0
  replace b1:=B.cell 1
  replace b2:=B.cell 2
  replace b3:=B.cell 3
  replace b4:=B.cell 4
  simp only[zs4,zs5]at b0 b1 b2 b3 b4
  replace lB:=B.lt
  replace p0:=P.cell
  replace lP:=P.lt
  go_enter Tryz.func91,Tryz.ntmps91
  go_wp2_with fail
  clear hW0
  refine cx (HT2.out _ _ (Q.refl W0)) fun w1 hq1=>?_
  replace B:=B.keep hq1 B.lt
  replace P:=P.keep hq1 P.lt
  have hE1:=hE.ofQ (Q.trans hq1 (Below.drew (Q.refl w1)))
  have b1:=B.drew.cell 1
  have b2:=B.drew.cell 2
  replace b0:=B.cell 0
  replace p0:=P.cell
  try simp only[zs4,zs5]at b0 b1 b2
  go_wp2_with fail
  refine zn 11 rfl (by kernel_rfl) rfl ?_
  refine svp 0 ?_
  refine svq 1 rfl (by intro w' hq;have hc0:=ze hq b2;go_simp;try with_reducible rfl) ?_
  refine zf (i:=2) (v:=_) rfl rfl (by kernel_rfl) (by kernel_rfl) (fun _ _ _ h=>h) (by rfl) ?_ (fun w' hq=>HD.out w' (hE1.ofQ hq)) ?_
  ·(intro w' hq;go_simp;try with_reducible rfl)
  simp only[Act.put,zs1,zs2,zs3]
  refine svp 3 ?_
  refine svp 4 ?_
  refine svq 5 rfl (by intro w' hq;have hc0:=ze hq b1;go_simp;try with_reducible rfl) ?_
  refine zf (i:=6) (v:=_) rfl rfl (by kernel_rfl) (by kernel_rfl) (fun _ _ _ h=>h) (by rfl) ?_ (fun w' hq=>HC.out w' (hE1.ofQ hq)) ?_
  ·(intro w' hq;go_simp;try with_reducible rfl)
  simp only[Act.put,zs1,zs2,zs3]
  refine zf (i:=7) (v:=_) rfl rfl (by kernel_rfl) (by kernel_rfl) (fun _ _ _ h=>h) (by rfl) ?_ (fun w' hq=>HS.out w' (hE1.ofQ hq)) ?_
  ·(intro w' hq;go_simp;try with_reducible rfl)
  simp only[Act.put,zs1,zs2,zs3]
  refine zf (i:=8) (v:=_) rfl rfl (by kernel_rfl) (by kernel_rfl) (fun _ _ _ h=>h) (by rfl) ?_ (fun w' hq=>HM.out w' (hE1.ofQ hq)) ?_
  ·(intro w' hq;go_simp;try with_reducible rfl)
  simp only[Act.put,zs1,zs2,zs3]
  refine svp 9 ?_
  refine svp 10 ?_
  refine zh (by kernel_rfl) (fun w3 hq3=>?_)
  simp only[List.drop_succ_cons,List.drop_nil]
  have hQe:Q w w3:=Q.trans hq0 (Q.trans hq1 (Q.trans (Below.drew (Q.refl _)) hq3))
  go_wp2
  go_ret2
  exact⟨rfl,hQe⟩
end
section
open Go.RowKit Go.Shelf Kp
attribute [local go_sem] Oper.semAt_some
def zm7(x:Raf):List Value:=[.int .i64 x.dep,.string ⟨(za x.pitch).toArray⟩,.string ⟨(za x.run).toArray⟩,.string ⟨(za (x.over:Rat)).toArray⟩]
theorem zl5{w w':World}{b:Nat}{cs:List Value}{t:TypeId}(h:Blk w b cs t)(hq:Q w w'):Blk w' b cs t:=h.keep hq h.lt
theorem znZ{w w':World}{a:Addr}{v:Value}(h:w.cell? a=some v)(hq:Q w w'):w'.cell? a=some v:=ze hq h
theorem ztz(f:Fr):(frC f).length=5:=rfl
theorem zfS{W:World}{b:Nat}{x y z u v:Value}(h:Blk W b [x,y,z,u] 110)(fn:Func)(hf:fn.results=#[.cell 4 110,.tmp 5])(tmps:Array Value)
  (hp:tmps.getD 4 undef=.pointer (some ⟨b,0,none⟩))(hp5:tmps.getD 5 undef=v) :
  (results fn tmps).run Tryz.prog W=.ok (.tuple #[.agg #[x,y,z,u],v]) W:=by
 have c0:=h.cell 0
 have c1:=h.cell 1
 have c2:=h.cell 2
 have c3:=h.cell 3
 simp only[zs4,zs5]at c0 c1 c2 c3
 simp only[Array.getD_eq_getD_getElem?]at hp hp5
 simp[results,hf,hp,hp5,go_sem,c0,c1,c2,c3]
theorem zsg{f:Fr}(h:FrOk f){x y:Rat}(hx:Bd 30 x)(hy:Bd 30 y):Bd 37 (zmX f x y):=by
 have hd1:f.dir.natAbs<10 ^ 1:=by rcases h.d with e | e <;> rw[e] <;> decide
 have hc1:f.coord.natAbs<10 ^ 5:=by have:=h.c0;have:=h.c1;omega
 have bd:=zfM hd1 (by decide)
 have bc:=zfM hc1 (by decide)
 have bz:Bd 30 (if f.up then x else y):=by split <;> assumption
 unfold zmX
 exact(bd.mul (bz.less bc)).mono (by decide)
structure RafPre (R:List (List Sd)) (m:Mb) (n:Nat):Prop where
 hip:zpU m=0
 face:m.face=(n:Int)
 lt:n<R.flatten.length
 gable:(zb5 R.flatten n).gable=false
def ofE(R:List (List Sd))(m:Mb):Int:=if zrU R m≠0∨zg7 R m≤((zjJ R m).over:Rat)then 20 else 0
def zuG:List Value:=[.int .i64 0,.string ⟨#[]⟩,.string ⟨#[]⟩,.string ⟨#[]⟩]
def ofV(R:List (List Sd))(m:Mb):List Value:=if ofE R m=0 then zm7 (zqv R m)else zuG
theorem zqC{R:List (List Sd)}{m:Mb}:(za (zrU R m)=[48]∧ziB (zg7 R m) ((zjJ R m).over:Rat)=1∧ofE R m=0) ∨
  (za (zrU R m)=[48]∧(ziB (zg7 R m) ((zjJ R m).over:Rat)=0∨ziB (zg7 R m) ((zjJ R m).over:Rat) = -1)∧ofE R m=20) ∨
  ((za (zrU R m) == [48])=false∧ofE R m=20):=by
 unfold ofE
 rcases Classical.em (zrU R m=0)with h | h
 ·rw[h,zav]
  rcases Classical.em (zg7 R m≤((zjJ R m).over:Rat))with k | k
  ·refine .inr (.inl ⟨rfl,?_,if_pos (.inr k)⟩)
   rcases Classical.em (zg7 R m<((zjJ R m).over:Rat))with l | l
   ·exact .inr (zlm l)
   ·rw[Rat.le_antisymm k (Rat.not_lt.1 l),zln]
    exact .inl rfl
  ·exact .inl ⟨rfl,znB (Rat.not_le.1 k),if_neg (fun e=>e.elim (fun e=>e rfl) k)⟩
 ·refine .inr (.inr ⟨?_,if_pos (.inl h)⟩)
  rw[beq_eq_false_iff_ne]
  exact fun e=>h (zaR (by rw[e,zav]))
theorem zoq{R:List (List Sd)}{m:Mb}{n:Nat}(hf:m.face=(n:Int)):zjJ R m=zb5 R.flatten n:=by
 unfold zjJ zb5
 rw[hf]
 simp
theorem zrZ(R:List (List Sd))(h:zd8 R=0)(hR:R.length≤1000)(m:Mb)(hs:m.short)(n:Nat)(hm:RafPre R m n)(hk:m.kind≤5)(v:Value)(p1 p2 p3:Option Addr)(l1 l2 l3 k1 k2 k3:Nat)(w:World)(hE:Env w)(hv:zki w v R) :
  CR 51 #[.agg #[v,.slice p1 l1 k1,.slice p2 l2 k2,.slice p3 l3 k3],.agg (mbC m).toArray] w (.tuple #[.agg (ofV R m).toArray,.int .i64 (ofE R m)]):=by
 have ok:=zli h
 have okm:=znO hm.hip
 have hnl:=hm.lt
 have hrg:=ok.rg _ (zk4 hnl)
 have HS1:Hid (∀ W,Q w W→Calls Tryz.prog 89 #[.agg #[v]] W fun e w'=>∃ v',e=.returned (.tuple #[v',.int .i64 0])∧Q W w'∧zcV 7 sdC w' v' R.flatten):=LH (fun W hq=>zo7 R h hR v W (hv.keep hq))
 have HA:Hid (∀ W,Env W→Q w W→Calls Tryz.prog 90 #[.agg #[v]] W fun e w'=>∃ v',e=.returned (.tuple #[v',.int .i64 0])∧w'.ownsRow W.heap.size 165 5 v' R.flatten.length (rowOf frC (zcs R))∧Q W w'):=LH (fun W hW hq=>zq4 R h hR v W hW (hv.keep hq))
 have HH:Hid (∀ w,Env w→CR 5 #[.agg (mbC m).toArray] w (.int .i64 0)):=LH (fun w hw=>by have:=zex m hs w hw;rw[hm.hip]at this;exact this)
 have hFl:n<(zcs R).length:=by rw[zjG];exact hnl
 obtain⟨F,hF⟩:∃ F,(zcs R)[n]=F:=⟨_,rfl⟩
 have hFF:zsc R m=F:=by
  unfold zsc
  rw[hm.face,← hF,List.getD_eq_getElem?_getD]
  simp[hFl]
 have okF:FrOk F:=by rw[← hF];exact zpA ok.rg _ (List.getElem_mem hFl)
 have bf:=okm.bf hs
 have bt:=okm.bt hs
 have HD1:=LH (fun w hw=>zfI F okF m.pf.x m.pf.y bf.1 bf.2.1 w hw)
 have HD2:=LH (fun w hw=>zfI F okF m.pt.x m.pt.y bt.1 bt.2.1 w hw)
 have bh:=zsg okF bt.1 bt.2.1
 have hlo:zrU R m=zmX F m.pf.x m.pf.y:=by unfold zrU;rw[hFF]
 have hhi:zg7 R m=zmX F m.pt.x m.pt.y:=by unfold zg7;rw[hFF]
 rw[← hlo,okm.strf.1,okm.strf.2.1]at HD1
 rw[← hhi,okm.strt.1,okm.strt.2.1]at HD2
 rw[← hhi]at bh
 have hov:(zb5 R.flatten n).over.natAbs<10 ^ 5:=by have:=hrg.o0;have:=hrg.o1;omega
 have HW:=LH (fun w hw=>zcz (zb5 R.flatten n).over (by omega) w hw)
 have HO:=LH (fun w hw=>zdq (zg7 R m) ((zb5 R.flatten n).over:Rat) bh (zfM hov (by decide)) (by decide) w hw)
 have hrn:=hrg.n hm.gable
 obtain⟨u,hu⟩:=Int.eq_ofNat_of_zero_le (show 0≤(zb5 R.flatten n).run by omega)
 have HP:=LH (fun w hw=>zaw (zb5 R.flatten n).rise u (by omega) (by omega) (by omega) w hw)
 have hraf:zm7 (zqv R m)=[.int .i64 m.dep,.string ⟨(za (Rat.divInt (zb5 R.flatten n).rise (u:Nat))).toArray⟩,.string ⟨(za (zg7 R m)).toArray⟩,.string ⟨(za ((zb5 R.flatten n).over:Rat)).toArray⟩]:=by
  unfold zm7 zqv
  rw[zoq hm.face,hu]
 have hcs:=zqC (R:=R) (m:=m)
 rw[zoq hm.face]at hcs
 unfold ofV zuG
 rw[hraf]
 have HCS:=LH hcs
 clear hcs
 generalize ofE R m=E at *
 generalize ziB (zg7 R m) ((zb5 R.flatten n).over:Rat)=od at *
 generalize za (zrU R m)=LO at *
 have hg:=hm.gable
 have hfc:=hm.face
 have hln:(n:Int)<R.flatten.length:=by omega
 have hrl:0<R.flatten.length:=by omega
 have h24:=ok.le
 rw[← count_flatten]at h24
 have HF:Hid (∀ (W:World) (v':Value) (B:Nat),W.ownsRow B 165 5 v' R.flatten.length (rowOf frC (zcs R))→∃ g cap,v'=.slice (some ⟨g,0,none⟩) R.flatten.length cap∧∀ j u,j<5→(frC F)[j]? = some u→W.cell? ⟨g,n*5+j,none⟩=some u):=LH (fun W v' B how=>by
  obtain⟨g,cap,rfl⟩:=ziV how hrl
  refine⟨g,cap,rfl,fun j u hj hu=>?_⟩
  have:=how.cells rfl (n*5+j) u (by rw[zdj ztz _ n hFl j hj,hF];exact hu)
  rw[Addr.add_lit,Nat.zero_add]at this
  exact this)
 generalize za (Rat.divInt (zb5 R.flatten n).rise (u:Nat))=PI at *
 generalize za (zg7 R m)=HI at *
 generalize za ((zb5 R.flatten n).over:Rat)=OV at *
 obtain⟨a0,cap0,rfl,-⟩:=hv
 clear hraf hov hrg okF hFF hlo hhi bh bf bt okm hm hs hF ok h hFl hR
 generalize zcs R=FS at *
 generalize R.flatten=r at *
 generalize R.length=rn at *
 obtain⟨ki,fa,ot,fx,fy,fz,tx,ty,tz,wi,de⟩:=m
 simp only at hk hfc
 subst hfc
 unfold mbC at *
 unfold frC at HD1 HD2
 simp only at HH HD1 HD2 ⊢
 have hkz:decide ((5:Int)<ki)=false:=by rw[decide_eq_false_iff_not];omega
 have hnz:decide ((r.length:Int)≤(n:Int))=false:=by rw[decide_eq_false_iff_not];omega
 have hn0:(0:Int)≤n:=by omega
 have BR:=((Blk.new w [.slice a0 rn cap0,.slice p1 l1 k1,.slice p2 l2 k2,.slice p3 l3 k3] 57).alloc (.cells #[.int .i64 ki,.int .i64 n,.int .i64 ot,.string ⟨fx.toArray⟩,.string ⟨fy.toArray⟩,.string ⟨fz.toArray⟩,.string ⟨tx.toArray⟩,.string ⟨ty.toArray⟩,.string ⟨tz.toArray⟩,.int .i64 wi,.int .i64 de] 26)).alloc (.cells #[.int .i64 0,.string ⟨#[]⟩,.string ⟨#[]⟩,.string ⟨#[]⟩] 110)
 have BM:=(Blk.new1 w (.cells #[.slice a0 rn cap0,.slice p1 l1 k1,.slice p2 l2 k2,.slice p3 l3 k3] 57) [.int .i64 ki,.int .i64 n,.int .i64 ot,.string ⟨fx.toArray⟩,.string ⟨fy.toArray⟩,.string ⟨fz.toArray⟩,.string ⟨tx.toArray⟩,.string ⟨ty.toArray⟩,.string ⟨tz.toArray⟩,.int .i64 wi,.int .i64 de] 26).alloc (.cells #[.int .i64 0,.string ⟨#[]⟩,.string ⟨#[]⟩,.string ⟨#[]⟩] 110)
 have BZ:=Blk.new2 w (.cells #[.slice a0 rn cap0,.slice p1 l1 k1,.slice p2 l2 k2,.slice p3 l3 k3] 57) (.cells #[.int .i64 ki,.int .i64 n,.int .i64 ot,.string ⟨fx.toArray⟩,.string ⟨fy.toArray⟩,.string ⟨fz.toArray⟩,.string ⟨tx.toArray⟩,.string ⟨ty.toArray⟩,.string ⟨tz.toArray⟩,.int .i64 wi,.int .i64 de] 26) [.int .i64 0,.string ⟨#[]⟩,.string ⟨#[]⟩,.string ⟨#[]⟩] 110
 obtain⟨W0,hW0⟩:∃ W0,((w.alloc (.cells #[.slice a0 rn cap0,.slice p1 l1 k1,.slice p2 l2 k2,.slice p3 l3 k3] 57)).alloc (.cells #[.int .i64 ki,.int .i64 n,.int .i64 ot,.string ⟨fx.toArray⟩,.string ⟨fy.toArray⟩,.string ⟨fz.toArray⟩,.string ⟨tx.toArray⟩,.string ⟨ty.toArray⟩,.string ⟨tz.toArray⟩,.int .i64 wi,.int .i64 de] 26)).alloc (.cells #[.int .i64 0,.string ⟨#[]⟩,.string ⟨#[]⟩,.string ⟨#[]⟩] 110)=W0:=⟨_,rfl⟩
 have hq0:Q w W0:=by rw[← hW0];exact bt
 have hs0:W0.heap.size=w.heap.size+3:=by rw[← hW0];simp
 have hEw:=hE.ofQ hq0
 rw[hW0]at BR BM
 have BZ:Blk W0 (w.heap.size+2) [.int .i64 0,.string ⟨#[]⟩,.string ⟨#[]⟩,.string ⟨#[]⟩] 110:=by rw[← hW0];exact BZ
 clear hE
 have hE:=hEw
 clear hEw
 have hQ0:=Q.refl W0
 replace r0:=BR.cell
 replace lBR:=BR.lt
 replace m0:=BM.cell 0
 replace m1:=BM.cell 1
 replace m2:=BM.cell 2
 replace m3:=BM.cell 3
 replace m4:=BM.cell 4
 replace m5:=BM.cell 5
 replace m6:=BM.cell 6
 replace m7:=BM.cell 7
 replace m8:=BM.cell 8
 replace m9:=BM.cell 9
 replace m10:=BM.cell 10
 simp only[zs4,zs5]at m0 m1 m2 m3 m4 m5 m6 m7 m8 m9 m10
 replace lBM:=BM.lt
 go_enter Tryz.func51,Tryz.ntmps51
 go_wp2_with fail
 clear hW0
 go_wp2_with fail
 refine(HS1.out _ hq0).mono ?_
 rintro e Y1⟨vs,rfl,hq1,hrow⟩
 have hs1:Q W0 Y1:=Q.trans bt hq1
 have hQ1:Q W0 Y1:=Q.trans hQ0 hs1
 replace BZ:=zl5 BZ hs1
 replace BR:=BR.keep hs1 BR.lt
 replace r0:=BR.cell
 replace lBR:=BR.lt
 replace BM:=BM.keep hs1 BM.lt
 replace m0:=BM.cell 0
 replace m1:=BM.cell 1
 replace m2:=BM.cell 2
 replace m3:=BM.cell 3
 replace m4:=BM.cell 4
 replace m5:=BM.cell 5
 replace m6:=BM.cell 6
 replace m7:=BM.cell 7
 replace m8:=BM.cell 8
 replace m9:=BM.cell 9
 replace m10:=BM.cell 10
 simp only[zs4,zs5]at m0 m1 m2 m3 m4 m5 m6 m7 m8 m9 m10
 replace lBM:=BM.lt
 obtain⟨a,cap,rfl,-⟩:=id hrow
 obtain⟨-,hrw,-⟩:=zcV.at hrow
 obtain⟨b,o,rfl,hd⟩:=hrw n hnl
 clear hrw hrow HS1
 generalize zb5 r n=s at *
 obtain⟨sx,sy,sr,su,sg,sp,so⟩:=s
 simp only at hg hu HW HO HP hrn
 subst hg hu
 have d0:Y1.cell? ⟨b,o+n*7,none⟩=some (.int .i64 sx):=hd 0 _ rfl
 have d1:Y1.cell? ⟨b,o+n*7+1,none⟩=some (.int .i64 sy):=hd 1 _ rfl
 have d2:Y1.cell? ⟨b,o+n*7+2,none⟩=some (.int .i64 sr):=hd 2 _ rfl
 have d3:Y1.cell? ⟨b,o+n*7+3,none⟩=some (.int .i64 (u:Nat)):=hd 3 _ rfl
 have d4:Y1.cell? ⟨b,o+n*7+4,none⟩=some (.bool false):=hd 4 _ rfl
 have d5:Y1.cell? ⟨b,o+n*7+5,none⟩=some (.int .i64 sp):=hd 5 _ rfl
 have d6:Y1.cell? ⟨b,o+n*7+6,none⟩=some (.int .i64 so):=hd 6 _ rfl
 clear hd
 go_wp2_with fail
 refine cx (HH.out _ (hE.ofQ bt)) fun Y2 hq2=>?_
 have hs2:Q Y1 Y2:=Q.trans bt hq2
 have hQ2:Q W0 Y2:=Q.trans hQ1 hs2
 replace BZ:=zl5 BZ hs2
 replace d0:=znZ d0 hs2
 replace d1:=znZ d1 hs2
 replace d2:=znZ d2 hs2
 replace d3:=znZ d3 hs2
 replace d4:=znZ d4 hs2
 replace d5:=znZ d5 hs2
 replace d6:=znZ d6 hs2
 replace BR:=BR.keep hs2 BR.lt
 replace r0:=BR.cell
 replace lBR:=BR.lt
 replace BM:=BM.keep hs2 BM.lt
 replace m0:=BM.cell 0
 replace m1:=BM.cell 1
 replace m2:=BM.cell 2
 replace m3:=BM.cell 3
 replace m4:=BM.cell 4
 replace m5:=BM.cell 5
 replace m6:=BM.cell 6
 replace m7:=BM.cell 7
 replace m8:=BM.cell 8
 replace m9:=BM.cell 9
 replace m10:=BM.cell 10
 simp only[zs4,zs5]at m0 m1 m2 m3 m4 m5 m6 m7 m8 m9 m10
 replace lBM:=BM.lt
 obtain⟨W2,hW2⟩:∃ W2,Y2.alloc (.cells #[.int .i64 sx,.int .i64 sy,.int .i64 sr,.int .i64 (u:Nat),.bool false,.int .i64 sp,.int .i64 so] 108)=W2:=⟨_,rfl⟩
 have S:=Blk.new Y2 [.int .i64 sx,.int .i64 sy,.int .i64 sr,.int .i64 (u:Nat),.bool false,.int .i64 sp,.int .i64 so] 108
 have S:Blk W2 Y2.heap.size [.int .i64 sx,.int .i64 sy,.int .i64 sr,.int .i64 (u:Nat),.bool false,.int .i64 sp,.int .i64 so] 108:=by rw[← hW2];exact S
 have hqW:Q Y2 W2:=by rw[← hW2];exact bt
 have hE2:=hE.ofQ (Q.trans hQ2 hqW)
 have hQW:Q W0 W2:=Q.trans hQ2 hqW
 have hwW:Q w W2:=Q.trans hq0 hQW
 have rr0:=BR.cell
 have mm0:=BM.cell
 replace BR:=BR.keep hqW BR.lt
 replace BM:=BM.keep hqW BM.lt
 replace BZ:=zl5 BZ hqW
 clear hE
 have hE:=hE2
 clear hE2 HH
 have hQ0:=Q.refl W2
 replace r0:=BR.cell
 replace lBR:=BR.lt
 replace m0:=BM.cell 0
 replace m1:=BM.cell 1
 replace m2:=BM.cell 2
 replace m3:=BM.cell 3
 replace m4:=BM.cell 4
 replace m5:=BM.cell 5
 replace m6:=BM.cell 6
 replace m7:=BM.cell 7
 replace m8:=BM.cell 8
 replace m9:=BM.cell 9
 replace m10:=BM.cell 10
 simp only[zs4,zs5]at m0 m1 m2 m3 m4 m5 m6 m7 m8 m9 m10
 replace lBM:=BM.lt
 replace s0:=S.cell 0
 replace s1:=S.cell 1
 replace s2:=S.cell 2
 replace s3:=S.cell 3
 replace s4:=S.cell 4
 replace s5:=S.cell 5
 replace s6:=S.cell 6
 simp only[zs4,zs5]at s0 s1 s2 s3 s4 s5 s6
 replace lS:=S.lt
 go_wp2_with fail
 refine(HA.out _ hE hwW).mono ?_
 rintro e Z1⟨vf,rfl,hown,hq1⟩
 have hs1:Q W2 Z1:=Q.trans bt hq1
 have hQ1:Q W2 Z1:=Q.trans hQ0 hs1
 replace BZ:=zl5 BZ hs1
 replace BR:=BR.keep hs1 BR.lt
 replace r0:=BR.cell
 replace lBR:=BR.lt
 replace BM:=BM.keep hs1 BM.lt
 replace m0:=BM.cell 0
 replace m1:=BM.cell 1
 replace m2:=BM.cell 2
 replace m3:=BM.cell 3
 replace m4:=BM.cell 4
 replace m5:=BM.cell 5
 replace m6:=BM.cell 6
 replace m7:=BM.cell 7
 replace m8:=BM.cell 8
 replace m9:=BM.cell 9
 replace m10:=BM.cell 10
 simp only[zs4,zs5]at m0 m1 m2 m3 m4 m5 m6 m7 m8 m9 m10
 replace lBM:=BM.lt
 replace S:=S.keep hs1 S.lt
 replace s0:=S.cell 0
 replace s1:=S.cell 1
 replace s2:=S.cell 2
 replace s3:=S.cell 3
 replace s4:=S.cell 4
 replace s5:=S.cell 5
 replace s6:=S.cell 6
 simp only[zs4,zs5]at s0 s1 s2 s3 s4 s5 s6
 replace lS:=S.lt
 clear hW2 d0 d1 d2 d3 d4 d5 d6 rr0 mm0 HA
 obtain⟨g,cp,rfl,hf⟩:=HF.out _ _ _ hown
 have f0:=hf 0 _ (by decide) rfl
 have f1:=hf 1 _ (by decide) rfl
 have f2:=hf 2 _ (by decide) rfl
 have f3:=hf 3 _ (by decide) rfl
 have f4:=hf 4 _ (by decide) rfl
 rw[Nat.add_zero]at f0
 clear hf hown HF
 have hEd:Env Z1.drew:=hE.ofQ (Q.trans hQ1 (Below.drew (Q.refl Z1)))
 go_wp2_with fail
 refine zn 18 rfl (by kernel_rfl) rfl ?_
 refine svp 0 ?_
 refine svp 1 ?_
 refine svq 2 rfl (by intro w' hq;have hc0:=ze hq m1;go_simp;try with_reducible rfl) ?_
 refine svp 3 ?_
 refine svq 4 rfl (by intro w' hq;have hc0:=ze hq f0;have hc1:=ze hq f1;have hc2:=ze hq f2;have hc3:=ze hq f3;have hc4:=ze hq f4;go_simp;try with_reducible rfl) ?_
 refine svp 5 ?_
 refine svp 6 ?_
 refine svq 7 rfl (by intro w' hq;have hc0:=ze hq m3;go_simp;try with_reducible rfl) ?_
 refine svp 8 ?_
 refine svp 9 ?_
 refine svq 10 rfl (by intro w' hq;have hc0:=ze hq m4;go_simp;try with_reducible rfl) ?_
 refine svp 11 ?_
 refine zf (i:=12) (v:=_) rfl rfl (by kernel_rfl) (by kernel_rfl) (fun _ _ _ h=>h) (by rfl) ?_ (fun w' hq=>HD1.out w' (hEd.ofQ hq)) ?_
 ·(intro w' hq;go_simp;try with_reducible rfl)
 simp only[Act.put,zs1,zs2,zs3]
 refine svp 13 ?_
 refine svp 14 ?_
 refine svp 15 ?_
 refine svp 16 ?_
 refine svp 17 ?_
 refine zh (by kernel_rfl) (fun w3 hq3=>?_)
 simp only[List.drop_succ_cons,List.drop_nil]
 have hqa:Q Z1 w3:=Q.trans (Below.drew (Q.refl Z1)) hq3
 replace f0:=ze hqa f0
 replace f1:=ze hqa f1
 replace f2:=ze hqa f2
 replace f3:=ze hqa f3
 replace f4:=ze hqa f4
 replace m1:=ze hqa m1
 replace m6:=ze hqa m6
 replace m7:=ze hqa m7
 have hEe:Env w3.drew:=hE.ofQ (Q.trans hQ1 (Q.trans hqa (Below.drew (Q.refl w3))))
 clear hq3 HD1
 go_wp2_with fail
 refine zn 18 rfl (by kernel_rfl) rfl ?_
 refine svp 0 ?_
 refine svp 1 ?_
 refine svq 2 rfl (by intro w' hq;have hc0:=ze hq m1;go_simp;try with_reducible rfl) ?_
 refine svp 3 ?_
 refine svq 4 rfl (by intro w' hq;have hc0:=ze hq f0;have hc1:=ze hq f1;have hc2:=ze hq f2;have hc3:=ze hq f3;have hc4:=ze hq f4;go_simp;try with_reducible rfl) ?_
 refine svp 5 ?_
 refine svp 6 ?_
 refine svq 7 rfl (by intro w' hq;have hc0:=ze hq m6;go_simp;try with_reducible rfl) ?_
 refine svp 8 ?_
 refine svp 9 ?_
 refine svq 10 rfl (by intro w' hq;have hc0:=ze hq m7;go_simp;try with_reducible rfl) ?_
 refine svp 11 ?_
 refine zf (i:=12) (v:=_) rfl rfl (by kernel_rfl) (by kernel_rfl) (fun _ _ _ h=>h) (by rfl) ?_ (fun w' hq=>HD2.out w' (hEe.ofQ hq)) ?_
 ·(intro w' hq;go_simp;try with_reducible rfl)
 simp only[Act.put,zs1,zs2,zs3]
 refine svp 13 ?_
 refine svp 14 ?_
 refine svp 15 ?_
 refine svp 16 ?_
 refine svp 17 ?_
 refine zh (by kernel_rfl) (fun w5 hq5=>?_)
 simp only[List.drop_succ_cons,List.drop_nil]
 have hqb:Q Z1 w5:=Q.trans hqa (Q.trans (Below.drew (Q.refl w3)) hq5)
 have e10:=ze hqb m10
 have e6:=ze hqb s6
 have hEf:Env w5.drew:=hE.ofQ (Q.trans hQ1 (Q.trans hqb (Below.drew (Q.refl w5))))
 clear hq5 HD2 f0 f1 f2 f3 f4
 go_wp2_with fail
 refine zn 8 rfl (by kernel_rfl) rfl ?_
 refine svp 0 ?_
 refine svq 1 rfl (by intro w' hq;have hc0:=ze hq e10;go_simp;try with_reducible rfl) ?_
 refine svp 2 ?_
 refine svp 3 ?_
 refine svq 4 rfl (by intro w' hq;have hc0:=ze hq e6;go_simp;try with_reducible rfl) ?_
 refine zf (i:=5) (v:=_) rfl rfl (by kernel_rfl) (by kernel_rfl) (fun _ _ _ h=>h) (by rfl) ?_ (fun w' hq=>HW.out w' (hEf.ofQ hq)) ?_
 ·(intro w' hq;go_simp;try with_reducible rfl)
 simp only[Act.put,zs1,zs2,zs3]
 refine svp 6 ?_
 refine za8 (i:=7) (.cells #[.int .i64 0,.string ⟨#[]⟩,.string ⟨#[]⟩,.string ⟨#[]⟩] 110) rfl rfl (by kernel_rfl) (by rfl) ?_ (fun w6 hq6=>?_)
 ·intro w' hq
  go_simp;try with_reducible rfl
 simp only[Act.put,zs1,zs2,zs3]
 refine zh (by kernel_rfl) (fun w7 hq7=>?_)
 simp only[List.drop_succ_cons,List.drop_zero]
 have hqc:Q Z1 w7:=Q.trans hqb (Q.trans (Below.drew (Q.refl w5)) (Q.trans hq6 (Q.trans ((Below.refl _ w6).alloc (Nat.le_refl _) _) hq7)))
 have T:=(Blk.new w6 [.int .i64 0,.string ⟨#[]⟩,.string ⟨#[]⟩,.string ⟨#[]⟩] 110).keep hq7 (by simp)
 have t0:=T.cell
 have g0:=T.frozen 0
 have g1:=T.frozen 1
 have g2:=T.frozen 2
 have g3:=T.frozen 3
 have hzt:Z1.heap.size≤w6.heap.size:=(Q.trans hqb (Q.trans (Below.drew (Q.refl w5)) hq6)).size
 have T2:=(((T.set 0 (.int .i64 de)).set 1 (.string ⟨#[]⟩)).set 2 (.string ⟨HI.toArray⟩)).set 3 (.string ⟨OV.toArray⟩)
 simp only[List.set_cons_zero,List.set_cons_succ]at T2
 have hqd:Q Z1 ((((w7.setCell ⟨w6.heap.size,0,none⟩ (.int .i64 de)).setCell ⟨w6.heap.size,1,none⟩ (.string ⟨#[]⟩)).setCell ⟨w6.heap.size,2,none⟩ (.string ⟨HI.toArray⟩)).setCell ⟨w6.heap.size,3,none⟩ (.string ⟨OV.toArray⟩)) :=
  (((hqc.setCell (p:=⟨w6.heap.size,0,none⟩) hzt _).setCell (p:=⟨w6.heap.size,1,none⟩) hzt _).setCell (p:=⟨w6.heap.size,2,none⟩) hzt _).setCell (p:=⟨w6.heap.size,3,none⟩) hzt _
 have v3:=T2.cell 3
 simp only[zs4,zs5]at v3
 clear hq6 hq7 hqc T HW hEf e10 e6 hqa hqb
 have hlz:=hQ1.size
 have hwz:=hwW.size
 have hne:w6.heap.size≠w.heap.size+2:=by have:=BZ.lt;omega
 generalize w6.heap.size=tb at *
 rcases HCS.out with⟨rfl,rfl,rfl⟩|⟨rfl,ho,rfl⟩|⟨hf,rfl⟩
 ·clear HCS
  go_wp2_with fail
  refine cx (HO.out _ (hE.ofQ (Q.trans hQ1 hqd))) fun w8 hq8=>?_
  have hqe:Q Z1 w8:=Q.trans hqd hq8
  have T8:=T2.keep hq8 T2.lt
  have a2:=ze hqe s2
  have a3:=ze hqe s3
  clear t0 g0 g1 g2 g3 v3 T2 hqd HO
  go_wp2_with fail
  refine cx (HP.out _ (hE.ofQ (Q.trans hQ1 hqe))) fun w9 hq9=>?_
  have hqf:Q Z1 w9:=Q.trans hqe hq9
  have T9:=T8.keep hq9 T8.lt
  have t0:=T9.cell
  have g1:=T9.frozen 1
  replace BZ:=zl5 BZ hqf
  have z0:=BZ.cell
  have y0:=BZ.frozen 0
  have y1:=BZ.frozen 1
  have y2:=BZ.frozen 2
  have y3:=BZ.frozen 3
  have hbz:w.heap.size≤w.heap.size+2:=by omega
  have htz:w.heap.size≤tb:=by omega
  have hne2:w.heap.size+2≠tb:=Ne.symm hne
  have Zf:=((((BZ.setOther hne 1 (.string ⟨PI.toArray⟩)).set 0 (.int .i64 de)).set 1 (.string ⟨PI.toArray⟩)).set 2 (.string ⟨HI.toArray⟩)).set 3 (.string ⟨OV.toArray⟩)
  simp only[List.set_cons_zero,List.set_cons_succ]at Zf
  have hQe:=(((((Q.trans hwW (Q.trans hQ1 hqf)).setCell (p:=⟨tb,1,none⟩) htz (.string ⟨PI.toArray⟩)).setCell (p:=⟨w.heap.size+2,0,none⟩) hbz (.int .i64 de)).setCell (p:=⟨w.heap.size+2,1,none⟩) hbz (.string ⟨PI.toArray⟩)).setCell (p:=⟨w.heap.size+2,2,none⟩) hbz (.string ⟨HI.toArray⟩)).setCell (p:=⟨w.heap.size+2,3,none⟩) hbz (.string ⟨OV.toArray⟩)
  clear T8 T9 a2 a3 HP hq9 hq8
  have hbe:w.heap.size+1+1=w.heap.size+2:=rfl
  go_wp2_with (exact bodyPost_ret (zfS Zf Tryz.f51 rfl _ rfl rfl) rfl ⟨rfl,hQe⟩)
 ·clear HCS HP
  have hbe:w.heap.size+1+1=w.heap.size+2:=rfl
  go_wp2_with fail
  refine cx (HO.out _ (hE.ofQ (Q.trans hQ1 hqd))) fun w8 hq8=>?_
  have hqe:Q Z1 w8:=Q.trans hqd hq8
  clear v3 T2 hqd HO t0 g0 g1 g2 g3
  rcases ho with rfl | rfl
  all_goals
   replace BZ:=zl5 BZ hqe
   have z0:=BZ.cell
   have y0:=BZ.frozen 0
   have y1:=BZ.frozen 1
   have y2:=BZ.frozen 2
   have y3:=BZ.frozen 3
   have hbz:w.heap.size≤w.heap.size+2:=by omega
   have Zf:=(((BZ.set 0 (.int .i64 0)).set 1 (.string ⟨#[]⟩)).set 2 (.string ⟨#[]⟩)).set 3 (.string ⟨#[]⟩)
   simp only[List.set_cons_zero,List.set_cons_succ]at Zf
   have hQe:=((((Q.trans hwW (Q.trans hQ1 hqe)).setCell (p:=⟨w.heap.size+2,0,none⟩) hbz (.int .i64 0)).setCell (p:=⟨w.heap.size+2,1,none⟩) hbz (.string ⟨#[]⟩)).setCell (p:=⟨w.heap.size+2,2,none⟩) hbz (.string ⟨#[]⟩)).setCell (p:=⟨w.heap.size+2,3,none⟩) hbz (.string ⟨#[]⟩)
   have hbe:w.heap.size+1+1=w.heap.size+2:=rfl
   go_wp2_with (exact bodyPost_ret (zfS Zf Tryz.f51 rfl _ rfl rfl) rfl ⟨rfl,hQe⟩)
 ·clear HCS HP HO
  have hf2:¬ LO=[48]:=by simpa using hf
  have hf3:(LO != [48])=true:=by rw[bne,hf];rfl
  replace BZ:=zl5 BZ hqd
  have z0:=BZ.cell
  have y0:=BZ.frozen 0
  have y1:=BZ.frozen 1
  have y2:=BZ.frozen 2
  have y3:=BZ.frozen 3
  have hbz:w.heap.size≤w.heap.size+2:=by omega
  have Zf:=(((BZ.set 0 (.int .i64 0)).set 1 (.string ⟨#[]⟩)).set 2 (.string ⟨#[]⟩)).set 3 (.string ⟨#[]⟩)
  simp only[List.set_cons_zero,List.set_cons_succ]at Zf
  have hQe:=((((Q.trans hwW (Q.trans hQ1 hqd)).setCell (p:=⟨w.heap.size+2,0,none⟩) hbz (.int .i64 0)).setCell (p:=⟨w.heap.size+2,1,none⟩) hbz (.string ⟨#[]⟩)).setCell (p:=⟨w.heap.size+2,2,none⟩) hbz (.string ⟨#[]⟩)).setCell (p:=⟨w.heap.size+2,3,none⟩) hbz (.string ⟨#[]⟩)
  have hbe:w.heap.size+1+1=w.heap.size+2:=rfl
  go_wp2_with (exact bodyPost_ret (zfS Zf Tryz.f51 rfl _ rfl rfl) rfl ⟨rfl,hQe⟩)
end
end Go.Proofs.YtdecodpgdainiaaGreatDoor
