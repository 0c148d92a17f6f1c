/-
  VE VF VG VH, one behind the other.
-/
import Derived.Test.YtbpghkdadajomaaGreatDoorHVZ1
set_option maxRecDepth 100000
set_option maxHeartbeats 4000000
namespace Go.Proofs.YtbpghkdadajomaaGreatDoor
section
open Go.RowKit Kp
open Go.Lib (decDigits)
theorem zrn{fn:Func}{m:Tmp}{T:TypeId}(hf:fn.results=#[.cell m T])(hT:T=221∨T=322)(tmps:Array Value)(W:World)(b:Nat)(x y:Value)(hp:tmps.getD m undef=.pointer (some ⟨b,0,none⟩))
  (c0:W.cell? ⟨b,0,none⟩=some x)(c1:W.cell? ⟨b,1,none⟩=some y) :
  (results fn tmps).run Tryz.prog W=.ok (.agg #[x,y]) W:=by
 simp only[Array.getD_eq_getD_getElem?]at hp
 rcases hT with rfl | rfl <;> simp[results,hf,go_sem,hp,c0,c1]
theorem zmq{fn:Func}{m k:Tmp}{T:TypeId}(hf:fn.results=#[.cell m T,.tmp k])(hT:T=221∨T=322)(tmps:Array Value)(W:World)(b:Nat)(x y u:Value)(hp:tmps.getD m undef=.pointer (some ⟨b,0,none⟩))(hk:tmps.getD k undef=u)
  (c0:W.cell? ⟨b,0,none⟩=some x)(c1:W.cell? ⟨b,1,none⟩=some y) :
  (results fn tmps).run Tryz.prog W=.ok (.tuple #[.agg #[x,y],u]) W:=by
 simp only[Array.getD_eq_getD_getElem?]at hp hk
 rcases hT with rfl | rfl <;> simp[results,hf,go_sem,hp,hk,c0,c1]
theorem Blk.set2{w:World}{b:Nat}{x y x' y':Value}{t:TypeId}(h:Blk w b [x,y] t):Blk ((w.setCell ⟨b,0,none⟩ x').setCell ⟨b,1,none⟩ y') b [x',y'] t :=
 (h.set 0 x').set 1 y'
theorem zob(A B C D U V:Str)(HU:Hid (∀ w,Env w→Calls Tryz.prog 192 #[.string ⟨A.toArray⟩,.string ⟨C.toArray⟩] w fun e w'=>e=.returned (.string ⟨U.toArray⟩)∧Q w w'))
  (HV:Hid (∀ w,Env w→Calls Tryz.prog 192 #[.string ⟨B.toArray⟩,.string ⟨D.toArray⟩] w fun e w'=>e=.returned (.string ⟨V.toArray⟩)∧Q w w'))(w:World)(hE:Env w) :
  Calls Tryz.prog 312 #[.agg #[.string ⟨A.toArray⟩,.string ⟨B.toArray⟩],.agg #[.string ⟨C.toArray⟩,.string ⟨D.toArray⟩]] w fun e w'=>e=.returned (.agg #[.string ⟨U.toArray⟩,.string ⟨V.toArray⟩])∧Q w w':=by
 go_enter Tryz.func312,Tryz.ntmps312
 go_wp2_with fail
 obtain⟨W0,hW0⟩:∃ W0,((w.alloc (.cells #[.string ⟨A.toArray⟩,.string ⟨B.toArray⟩] 221)).alloc (.cells #[.string ⟨C.toArray⟩,.string ⟨D.toArray⟩] 221)).alloc (.cells #[.string ⟨#[]⟩,.string ⟨#[]⟩] 221)=W0:=⟨_,rfl⟩
 have hq0:Q w W0:=by rw[← hW0];exact bt
 have P:Blk W0 w.heap.size [.string ⟨A.toArray⟩,.string ⟨B.toArray⟩] 221:=by rw[← hW0];exact((Blk.new w _ _).alloc _).alloc _
 have R:Blk W0 (w.heap.size+1) [.string ⟨C.toArray⟩,.string ⟨D.toArray⟩] 221:=by rw[← hW0];exact(Blk.new1 w _ _ _).alloc _
 have S:Blk W0 (w.heap.size+2) [.string ⟨#[]⟩,.string ⟨#[]⟩] 221:=by rw[← hW0];exact Blk.new2 w _ _ _ _
 rw[hW0]
 have d0:=P.drew.cell 0
 have d1:=P.drew.cell 1
 have d2:=R.drew.cell 0
 have d3:=R.drew.cell 1
 simp only[zs4,zs5]at d0 d1 d2 d3
 clear hW0
 have hqd:Q W0 W0.drew:=Below.drew (Q.refl W0)
 refine zo 11 (by kernel_rfl) (by kernel_rfl) rfl ?_
 refine svp 0 ?_
 refine svq 1 rfl (by intro w' hq;have hc0:=ze hq d0;go_simp;try with_reducible rfl) ?_
 refine svp 2 ?_
 refine svq 3 rfl (by intro w' hq;have hc0:=ze hq d2;go_simp;try with_reducible rfl) ?_
 refine zh (i:=4) (v:=_) rfl rfl (by kernel_rfl) (by kernel_rfl) (fun _ _ _ h=>h) (by rfl) ?_ (fun w' hq=>HU.out w' (hE.q (Q.trans hq0 (Q.trans hqd hq)))) ?_
 ·(intro w' hq;go_simp;try with_reducible rfl)
 simp only[Act.put,zs1,zs2,zs3]
 refine svp 5 ?_
 refine svq 6 rfl (by intro w' hq;have hc0:=ze hq d1;go_simp;try with_reducible rfl) ?_
 refine svp 7 ?_
 refine svq 8 rfl (by intro w' hq;have hc0:=ze hq d3;go_simp;try with_reducible rfl) ?_
 refine zh (i:=9) (v:=_) rfl rfl (by kernel_rfl) (by kernel_rfl) (fun _ _ _ h=>h) (by rfl) ?_ (fun w' hq=>HV.out w' (hE.q (Q.trans hq0 (Q.trans hqd hq)))) ?_
 ·(intro w' hq;go_simp;try with_reducible rfl)
 simp only[Act.put,zs1,zs2,zs3]
 refine svp 10 ?_
 refine zi (by kernel_rfl) (fun w3 hq3=>?_)
 simp only[List.drop_succ_cons,List.drop_zero]
 have hqq:Q W0 w3:=Q.trans hqd hq3
 have hQ3:Q w w3:=Q.trans hq0 hqq
 have S':=S.keep hqq S.lt
 have lS:=S'.lt
 have x0:=S'.cell 0
 have x1:=S'.cell 1
 have f0:=S'.frozen 0
 have f1:=S'.frozen 1
 simp only[zs4,zs5]at x0 x1
 clear P R S d0 d1 d2 d3
 go_wp2
 refine bodyPost_ret (v:=.agg #[.string ⟨U.toArray⟩,.string ⟨V.toArray⟩]) (zrn Tryz.results312 (.inl rfl) _ _ (w.heap.size+2) _ _ rfl (S'.set2.cell 0) (S'.set2.cell 1)) rfl ⟨rfl,bt⟩
theorem zps(A B C D U V:Str)(HU:Hid (∀ w,Env w→Calls Tryz.prog 192 #[.string ⟨A.toArray⟩,.string ⟨D.toArray⟩] w fun e w'=>e=.returned (.string ⟨U.toArray⟩)∧Q w w'))
  (HV:Hid (∀ w,Env w→Calls Tryz.prog 192 #[.string ⟨B.toArray⟩,.string ⟨C.toArray⟩] w fun e w'=>e=.returned (.string ⟨V.toArray⟩)∧Q w w'))(w:World)(hE:Env w) :
  Calls Tryz.prog 311 #[.agg #[.string ⟨A.toArray⟩,.string ⟨B.toArray⟩],.agg #[.string ⟨C.toArray⟩,.string ⟨D.toArray⟩]] w fun e w'=>e=.returned (.agg #[.string ⟨U.toArray⟩,.string ⟨V.toArray⟩])∧Q w w':=by
 go_enter Tryz.func311,Tryz.ntmps311
 go_wp2_with fail
 obtain⟨W0,hW0⟩:∃ W0,((w.alloc (.cells #[.string ⟨A.toArray⟩,.string ⟨B.toArray⟩] 221)).alloc (.cells #[.string ⟨C.toArray⟩,.string ⟨D.toArray⟩] 221)).alloc (.cells #[.string ⟨#[]⟩,.string ⟨#[]⟩] 221)=W0:=⟨_,rfl⟩
 have hq0:Q w W0:=by rw[← hW0];exact bt
 have P:Blk W0 w.heap.size [.string ⟨A.toArray⟩,.string ⟨B.toArray⟩] 221:=by rw[← hW0];exact((Blk.new w _ _).alloc _).alloc _
 have R:Blk W0 (w.heap.size+1) [.string ⟨C.toArray⟩,.string ⟨D.toArray⟩] 221:=by rw[← hW0];exact(Blk.new1 w _ _ _).alloc _
 have S:Blk W0 (w.heap.size+2) [.string ⟨#[]⟩,.string ⟨#[]⟩] 221:=by rw[← hW0];exact Blk.new2 w _ _ _ _
 rw[hW0]
 have d0:=P.drew.cell 0
 have d1:=P.drew.cell 1
 have d2:=R.drew.cell 0
 have d3:=R.drew.cell 1
 simp only[zs4,zs5]at d0 d1 d2 d3
 clear hW0
 have hqd:Q W0 W0.drew:=Below.drew (Q.refl W0)
 refine zo 11 (by kernel_rfl) (by kernel_rfl) rfl ?_
 refine svp 0 ?_
 refine svq 1 rfl (by intro w' hq;have hc0:=ze hq d0;go_simp;try with_reducible rfl) ?_
 refine svp 2 ?_
 refine svq 3 rfl (by intro w' hq;have hc0:=ze hq d3;go_simp;try with_reducible rfl) ?_
 refine zh (i:=4) (v:=_) rfl rfl (by kernel_rfl) (by kernel_rfl) (fun _ _ _ h=>h) (by rfl) ?_ (fun w' hq=>HU.out w' (hE.q (Q.trans hq0 (Q.trans hqd hq)))) ?_
 ·(intro w' hq;go_simp;try with_reducible rfl)
 simp only[Act.put,zs1,zs2,zs3]
 refine svp 5 ?_
 refine svq 6 rfl (by intro w' hq;have hc0:=ze hq d1;go_simp;try with_reducible rfl) ?_
 refine svp 7 ?_
 refine svq 8 rfl (by intro w' hq;have hc0:=ze hq d2;go_simp;try with_reducible rfl) ?_
 refine zh (i:=9) (v:=_) rfl rfl (by kernel_rfl) (by kernel_rfl) (fun _ _ _ h=>h) (by rfl) ?_ (fun w' hq=>HV.out w' (hE.q (Q.trans hq0 (Q.trans hqd hq)))) ?_
 ·(intro w' hq;go_simp;try with_reducible rfl)
 simp only[Act.put,zs1,zs2,zs3]
 refine svp 10 ?_
 refine zi (by kernel_rfl) (fun w3 hq3=>?_)
 simp only[List.drop_succ_cons,List.drop_zero]
 have hqq:Q W0 w3:=Q.trans hqd hq3
 have hQ3:Q w w3:=Q.trans hq0 hqq
 have S':=S.keep hqq S.lt
 have lS:=S'.lt
 have x0:=S'.cell 0
 have x1:=S'.cell 1
 have f0:=S'.frozen 0
 have f1:=S'.frozen 1
 simp only[zs4,zs5]at x0 x1
 clear P R S d0 d1 d2 d3
 go_wp2
 refine bodyPost_ret (v:=.agg #[.string ⟨U.toArray⟩,.string ⟨V.toArray⟩]) (zrn Tryz.results311 (.inl rfl) _ _ (w.heap.size+2) _ _ rfl (S'.set2.cell 0) (S'.set2.cell 1)) rfl ⟨rfl,bt⟩
theorem zoc(x y:Int)(hx:lim x=false)(hy:lim y=false)(hy0:y≠0)(w:World)(hE:Env w) :
  Calls Tryz.prog 313 #[.agg #[.string ⟨(Lib.itoa x).toArray⟩,.string ⟨(Lib.itoa y).toArray⟩]] w fun e w'=>e=.returned (.string ⟨(Lib.itoa (x.fdiv y)).toArray⟩)∧Q w w':=by
 have HQ:=LH (fun w hw=>zgk x y hx hy hy0 w hw)
 generalize Lib.itoa (x.fdiv y)=K at *
 generalize Lib.itoa (x.fmod y)=M at *
 generalize Lib.itoa x=X at *
 generalize Lib.itoa y=Y at *
 go_enter Tryz.func313,Tryz.ntmps313
 have hQ0:=Q.refl w
 go_wp2_with fail
 refine(HQ.out _ (hE.ofQ bt)).mono ?_
 rintro e w1⟨rfl,hq1⟩
 have hs1:Q w w1:=Q.trans bt hq1
 have hQ1:Q w w1:=Q.trans hQ0 hs1
 go_wp2
 go_ret
 exact⟨rfl,bt⟩
theorem zkm(q:Rat)(h:0<q.num)(w:World) :
  Calls Tryz.prog 310 #[.string ⟨(za q).toArray⟩] w fun e w'=>e=.returned (.int .i64 1)∧w=w':=by
 have hz:(za q == [48])=false:=by
  rw[beq_eq_false_iff_ne,← zI];exact fun e=>by have:=zav e;subst this;simp at h
 have hmin:decide ((za q).head? = some 45)=false:=by rw[decide_eq_false_iff_not,zbf];omega
 have HN:=LH (fun w=>zeg (za q) w)
 rw[hmin]at HN
 clear hmin
 generalize za q=S at *
 go_enter Tryz.func310,Tryz.ntmps310
 go_wp2_with fail
 refine(HN.out _).mono ?_
 rintro e w1⟨rfl,rfl⟩
 go_wp2
 go_ret
 exact⟨rfl,rfl⟩
theorem ziw(q u:Rat)(hq:zea q)(hu:zea u)(q0:0≤q.num)(u0:0<u.num)(w:World)(hE:Env w) :
  Calls Tryz.prog 307 #[.string ⟨(za q).toArray⟩,.string ⟨(za u).toArray⟩] w fun e w'=>e=.returned (.int .i64 0)∧Q w w':=by
 have HC:Hid (∀ b1 b2 t1 t2 w,Env w→Blk w b1 [.string ⟨(za q).toArray⟩,.string ⟨(za u).toArray⟩] t1→Blk w b2 [.string ⟨(za q).toArray⟩] t2 →
   Calls Tryz.prog 151 #[.slice (some ⟨b1,0,none⟩) 2 2,.slice (some ⟨b2,0,none⟩) 1 1] w fun e w'=>e=.returned (.int .i64 0)∧Q w w') :=
  LH (fun b1 b2 t1 t2 w hw h1 h2=>by
   have h:=zdT [q,u] [q] (by
    intro x hx
    rw[List.mem_cons,List.mem_singleton]at hx
    rcases hx with rfl | rfl
    ·exact hq
    ·exact hu) _ _ w hw (zdN.two h1) (zdN.one h2) (by simp) (by simp)
   rw[if_pos (by intro x hx;rw[List.mem_singleton]at hx;subst hx;exact q0)]at h
   exact h)
 have HS:=LH (fun w=>zkm u u0 w)
 clear hq hu q0 u0
 generalize za q=X at *
 generalize za u=U at *
 go_enter Tryz.func307,Tryz.ntmps307
 have hQ0:=Q.refl w
 go_wp2_with fail
 refine(HC.out _ _ _ _ _ (hE.ofQ bt) ((Blk.new w [.string ⟨X.toArray⟩,.string ⟨U.toArray⟩] 30).alloc _) (Blk.new1 w _ [.string ⟨X.toArray⟩] 30)).mono ?_
 rintro e w1⟨rfl,hq1⟩
 have hs1:Q w w1:=Q.trans bt hq1
 have hQ1:Q w w1:=Q.trans hQ0 hs1
 go_wp2_with fail
 refine(HS.out _).mono ?_
 rintro e w2⟨rfl,rfl⟩
 go_wp2
 go_ret
 exact⟨rfl,bt⟩
def zez(q u:Rat):Nat:=zl ((q.num.toNat*(u.den*u.den)) / (q.den*(u.num.toNat*u.num.toNat)))
theorem znF{q u:Rat}(bq:Bd 70 q)(bu:Bd 10 u)(q0:0≤q.num)(u0:0<u.num) :
  lim (u.num*u.num)=false∧lim ((u.den:Int)*u.den)=false∧lim (q.num*((u.den:Int)*u.den))=false∧lim ((q.den:Int)*(u.num*u.num))=false∧(q.den:Int)*(u.num*u.num)≠0 ∧
  (q.num*((u.den:Int)*u.den)).fdiv ((q.den:Int)*(u.num*u.num))=(((q.num.toNat*(u.den*u.den)) / (q.den*(u.num.toNat*u.num.toNat)):Nat):Int)∧lim ((((q.num.toNat*(u.den*u.den)) / (q.den*(u.num.toNat*u.num.toNat)):Nat):Int))=false∧lim ((zez q u:Nat):Int)=false:=by
 have hn:∃ a:Nat,q.num=a:=⟨q.num.toNat,by omega⟩
 have hu:∃ b:Nat,u.num=b:=⟨u.num.toNat,by omega⟩
 obtain⟨a,ha⟩:=hn
 obtain⟨b,hb⟩:=hu
 have b0:0<b:=by omega
 have hd:=q.den_pos
 have k1:a<10 ^ 70:=by have:=bq.1;rw[ha,Int.natAbs_natCast]at this;exact this
 have k2:b<10 ^ 10:=by have:=bu.1;rw[hb,Int.natAbs_natCast]at this;exact this
 have k3:=bq.2
 have k4:=bu.2
 unfold zez
 rw[ha,hb,Int.toNat_natCast,Int.toNat_natCast]
 generalize q.den=c at *
 generalize u.den=d at *
 have m1:b*b<10 ^ 20:=Nat.lt_of_lt_of_le (Nat.mul_lt_mul'' k2 k2) (by decide)
 have m2:d*d<10 ^ 20:=Nat.lt_of_lt_of_le (Nat.mul_lt_mul'' k4 k4) (by decide)
 have m3:a*(d*d)<10 ^ 90:=Nat.lt_of_lt_of_le (Nat.mul_lt_mul'' k1 m2) (by decide)
 have m4:c*(b*b)<10 ^ 90:=Nat.lt_of_lt_of_le (Nat.mul_lt_mul'' k3 m1) (by decide)
 have hl:∀ n:Nat,n<10 ^ 90→lim (n:Int)=false:=fun n h=>zbb (n:=90) (by rw[Int.natAbs_natCast];exact h) (by decide)
 have p0:0<c*(b*b):=Nat.mul_pos hd (Nat.mul_pos b0 b0)
 have m5:a*(d*d) / (c*(b*b))<10 ^ 90:=Nat.lt_of_le_of_lt (Nat.div_le_self _ _) m3
 rw[← Int.natCast_mul,← Int.natCast_mul,← Int.natCast_mul,← Int.natCast_mul]
 have m6:zl (a*(d*d) / (c*(b*b)))<10 ^ 90:=Nat.lt_of_le_of_lt (Nat.le_trans (by
  generalize zl (a*(d*d) / (c*(b*b)))=r
  exact Nat.le_mul_self r) (zes _)) m5
 refine⟨hl _ (Nat.lt_of_lt_of_le m1 (by decide)),hl _ (Nat.lt_of_lt_of_le m2 (by decide)),hl _ m3,hl _ m4,by omega,?_,hl _ m5,hl _ m6⟩
 exact znn _ _
theorem znX(q u:Rat)(bq:Bd 70 q)(bu:Bd 10 u)(q0:0≤q.num)(u0:0<u.num)(w:World)(hE:Env w) :
  Calls Tryz.prog 309 #[.string ⟨(za q).toArray⟩,.string ⟨(za u).toArray⟩,.string ⟨#[49]⟩] w fun e w'=>e=.returned (.string ⟨(Lib.itoa ((zez q u:Nat):Int)).toArray⟩)∧Q w w':=by
 obtain⟨a1,a2,a3,a4,a5,a6,a7,a8⟩:=znF bq bu q0 u0
 have lq:=zA (bq.zak (by decide))
 have lu:=zA (bu.zak (by decide))
 have HU:=LH (fun w hw=>zfL u (bu.zak (by decide)) w hw)
 have HQ:=LH (fun w hw=>zfL q (bq.zak (by decide)) w hw)
 have HT:=LH (fun w hw=>zob (Lib.itoa u.num) (Lib.itoa (u.den:Int)) (Lib.itoa u.num) (Lib.itoa (u.den:Int)) (Lib.itoa (u.num*u.num)) (Lib.itoa ((u.den:Int)*u.den))
  (LH fun w hw=>zcy _ _ lu.1 lu.1 a1 w hw) (LH fun w hw=>zcy _ _ lu.2 lu.2 a2 w hw) w hw)
 have HO:=LH (fun w hw=>zps (Lib.itoa q.num) (Lib.itoa (q.den:Int)) (Lib.itoa (u.num*u.num)) (Lib.itoa ((u.den:Int)*u.den)) (Lib.itoa (q.num*((u.den:Int)*u.den))) (Lib.itoa ((q.den:Int)*(u.num*u.num)))
  (LH fun w hw=>zcy _ _ lq.1 a2 a3 w hw) (LH fun w hw=>zcy _ _ lq.2 a1 a4 w hw) w hw)
 have hm0:=fun w hw=>zcy (q.num*((u.den:Int)*u.den)) 1 a3 (zdi (by decide)) (by rw[Int.mul_one];exact a3) w hw
 rw[Int.mul_one,zZ]at hm0
 have HM:=LH hm0
 have hf0:=fun w hw=>zoc (q.num*((u.den:Int)*u.den)) ((q.den:Int)*(u.num*u.num)) a3 a4 a5 w hw
 rw[a6]at hf0
 have HF:=LH hf0
 have HR:=LH (fun w hw=>ze8 _ a7 w hw)
 have hun:zez q u=zl ((q.num.toNat*(u.den*u.den)) / (q.den*(u.num.toNat*u.num.toNat))):=rfl
 rw[hun]
 clear bq bu q0 u0 a1 a2 a3 a4 a5 a6 a7 a8 lq lu hm0 hf0 hun
 generalize Lib.itoa ((zl ((q.num.toNat*(u.den*u.den)) / (q.den*(u.num.toNat*u.num.toNat))):Nat):Int)=K at *
 generalize Lib.itoa (((q.num.toNat*(u.den*u.den)) / (q.den*(u.num.toNat*u.num.toNat)):Nat):Int)=J at *
 generalize Lib.itoa (q.num*((u.den:Int)*u.den))=PN at *
 generalize Lib.itoa ((q.den:Int)*(u.num*u.num))=PD at *
 generalize Lib.itoa (u.num*u.num)=UN at *
 generalize Lib.itoa ((u.den:Int)*u.den)=UD at *
 generalize Lib.itoa u.num=un at *
 generalize Lib.itoa (u.den:Int)=ud at *
 generalize Lib.itoa q.num=qn at *
 generalize Lib.itoa (q.den:Int)=qd at *
 generalize za q=X at *
 generalize za u=Y at *
 go_enter Tryz.func309,Tryz.ntmps309
 have hQ0:=Q.refl w
 go_wp2_with fail
 refine(HU.out _ (hE.ofQ bt)).mono ?_
 rintro e w1⟨rfl,hq1⟩
 have hs1:Q w w1:=Q.trans bt hq1
 have hQ1:Q w w1:=Q.trans hQ0 hs1
 go_wp2_with fail
 obtain⟨W0,hW0⟩:∃ W0,w1.alloc (.cells #[.string ⟨un.toArray⟩,.string ⟨ud.toArray⟩] 221)=W0:=⟨_,rfl⟩
 have hq0:Q w W0:=by rw[← hW0];exact bt
 have P:Blk W0 w1.heap.size [.string ⟨un.toArray⟩,.string ⟨ud.toArray⟩] 221:=by rw[← hW0];exact Blk.new w1 _ _
 rw[hW0]
 clear hW0
 have d0:=P.drew.cell 0
 have d1:=P.drew.cell 1
 simp only[zs4,zs5]at d0 d1
 have hqd:Q W0 W0.drew:=Below.drew (Q.refl W0)
 refine zo 7 (by kernel_rfl) (by kernel_rfl) rfl ?_
 refine svp 0 ?_
 refine zh (i:=1) (v:=_) rfl rfl (by kernel_rfl) (by kernel_rfl) (fun _ _ _ h=>h) (by rfl) ?_ (fun w' hq=>HQ.out w' (hE.q (Q.trans hq0 (Q.trans hqd hq)))) ?_
 ·(intro w' hq;go_simp;try with_reducible rfl)
 simp only[Act.put,zs1,zs2,zs3]
 refine svq 2 rfl (by intro w' hq;have hc0:=ze hq d0;have hc1:=ze hq d1;go_simp;try with_reducible rfl) ?_
 refine svq 3 rfl (by intro w' hq;have hc0:=ze hq d0;have hc1:=ze hq d1;go_simp;try with_reducible rfl) ?_
 refine zh (i:=4) (v:=_) rfl rfl (by kernel_rfl) (by kernel_rfl) (fun _ _ _ h=>h) (by rfl) ?_ (fun w' hq=>HT.out w' (hE.q (Q.trans hq0 (Q.trans hqd hq)))) ?_
 ·(intro w' hq;go_simp;try with_reducible rfl)
 simp only[Act.put,zs1,zs2,zs3]
 refine zh (i:=5) (v:=_) rfl rfl (by kernel_rfl) (by kernel_rfl) (fun _ _ _ h=>h) (by rfl) ?_ (fun w' hq=>HO.out w' (hE.q (Q.trans hq0 (Q.trans hqd hq)))) ?_
 ·(intro w' hq;go_simp;try with_reducible rfl)
 simp only[Act.put,zs1,zs2,zs3]
 refine za8 (i:=6) (.cells #[.string ⟨#[]⟩,.string ⟨#[]⟩] 221) rfl rfl (by kernel_rfl) (by rfl) ?_ (fun w2 hq2=>?_)
 ·(intro w' hq;go_simp;try with_reducible rfl)
 simp only[Act.put,zs1,zs2,zs3]
 refine zi (by kernel_rfl) (fun w3 hq3=>?_)
 simp only[List.drop_succ_cons,List.drop_zero]
 have hQ2:Q w w2:=Q.trans hq0 (Q.trans hqd hq2)
 have hQ3:Q w w3:=Below.trans (zkt hQ2 _) (hq3.mono (by have:=hQ2.size;simp;omega))
 have T0:=(Blk.new w2 [.string ⟨#[]⟩,.string ⟨#[]⟩] 221).keep hq3 (by simp)
 clear hQ1 hs1 P d0 d1
 have hz2:=hQ2.size
 have hz3:=hQ3.size
 have g0:=T0.frozen 0
 have g1:=T0.frozen 1
 have e0:=T0.cell 0
 have e1:=T0.cell 1
 have lT:=T0.lt
 simp only[zs4,zs5]at e0 e1
 have T:=T0.set2 (x':=.string ⟨PN.toArray⟩) (y':=.string ⟨PD.toArray⟩)
 go_wp2_with fail
 refine(HM.out _ (hE.ofQ bt)).mono ?_
 rintro e w4⟨rfl,hq4⟩
 have hQ4:Q w w4:=Below.trans bt (hq4.mono (by simp;omega))
 replace T:=T.keep hq4 (by simp;omega)
 clear g0 g1 e0 e1 T0
 have t0:=T.cell 0
 have t1:=T.cell 1
 have f0:=T.frozen 0
 replace lT:=T.lt
 simp only[zs4,zs5]at t0 t1
 go_wp2_with fail
 refine(HF.out _ (hE.ofQ bt)).mono ?_
 rintro e w5⟨rfl,hq5⟩
 have hQ5:Q w w5:=Below.trans bt (hq5.mono (by have:=hQ4.size;simp;omega))
 go_wp2_with fail
 refine(HR.out _ (hE.ofQ bt)).mono ?_
 rintro e w6⟨rfl,hq6⟩
 have hQ6:Q w w6:=Q.trans hQ5 hq6
 go_wp2
 go_ret
 exact⟨rfl,bt⟩
theorem zkn(n:Nat)(u:Rat)(bn:Bd 40 (n:Rat))(bu:Bd 10 u)(w:World)(hE:Env w) :
  Calls Tryz.prog 308 #[.string ⟨(Lib.itoa (n:Int)).toArray⟩,.string ⟨(za u).toArray⟩] w fun e w'=>e=.returned (.string ⟨(za ((n:Rat)*u)).toArray⟩)∧Q w w':=by
 have hm:=fun w hw=>zM (n:Rat) u bn bu (by decide) w hw
 rw[zT]at hm
 have HM:=LH hm
 clear hm bn bu
 generalize za ((n:Rat)*u)=R at *
 generalize za u=U at *
 generalize Lib.itoa (n:Int)=N at *
 go_enter Tryz.func308,Tryz.ntmps308
 have hQ0:=Q.refl w
 go_wp2_with fail
 refine(HM.out _ (hE.ofQ bt)).mono ?_
 rintro e w1⟨rfl,hq1⟩
 have hs1:Q w w1:=Q.trans bt hq1
 have hQ1:Q w w1:=Q.trans hQ0 hs1
 go_wp2
 go_ret
 exact⟨rfl,bt⟩
theorem znZ(q u:Rat)(bq:Bd 70 q)(bu:Bd 10 u)(q0:0≤q.num)(u0:0<u.num)(bn:Bd 40 ((zez q u:Nat):Rat))(w:World)(hE:Env w) :
  Calls Tryz.prog 305 #[.string ⟨(za q).toArray⟩,.string ⟨(za u).toArray⟩] w fun e w'=>e=.returned (.tuple #[.string ⟨(za (((zez q u:Nat):Rat)*u)).toArray⟩,.int .i64 0])∧Q w w':=by
 have HE:=LH (fun w hw=>ziw q u (bq.root90 (by decide)) (bu.root90 (by decide)) q0 u0 w hw)
 have HU:=LH (fun w hw=>znX q u bq bu q0 u0 w hw)
 have HM:=LH (fun w hw=>zkn (zez q u) u bn bu w hw)
 clear bq bu q0 u0 bn
 generalize za (((zez q u:Nat):Rat)*u)=R at *
 generalize Lib.itoa ((zez q u:Nat):Int)=N at *
 generalize za q=X at *
 generalize za u=U at *
 go_enter Tryz.func305,Tryz.ntmps305
 have hQ0:=Q.refl w
 go_wp2_with fail
 refine(HE.out _ (hE.ofQ bt)).mono ?_
 rintro e w1⟨rfl,hq1⟩
 have hs1:Q w w1:=Q.trans bt hq1
 have hQ1:Q w w1:=Q.trans hQ0 hs1
 go_wp2_with fail
 refine(HU.out _ (hE.ofQ bt)).mono ?_
 rintro e w2⟨rfl,hq2⟩
 have hs2:Q w1 w2:=Q.trans bt hq2
 have hQ2:Q w w2:=Q.trans hQ1 hs2
 go_wp2_with fail
 refine(HM.out _ (hE.ofQ bt)).mono ?_
 rintro e w3⟨rfl,hq3⟩
 have hs3:Q w2 w3:=Q.trans bt hq3
 have hQ3:Q w w3:=Q.trans hQ2 hs3
 go_wp2
 go_ret2
 exact⟨rfl,bt⟩
theorem zfr(x:Rat)(hx:zO x)(x0:0≤x.num)(w:World)(hE:Env w) :
  Calls Tryz.prog 306 #[.string ⟨(za x).toArray⟩] w fun e w'=>e=.returned (.tuple #[.string ⟨(Lib.itoa ((x.num.toNat / x.den:Nat):Int)).toArray⟩,.int .i64 0])∧Q w w':=by
 have hn:=fun w=>zC (za x) (by have:=zcd hx;omega) w
 rw[zaN hx]at hn
 have HN:=LH hn
 obtain⟨h1,h2⟩:=hx
 have hd:=x.den_pos
 obtain⟨a,ha⟩:∃ a:Nat,x.num=a:=⟨x.num.toNat,by omega⟩
 rw[ha]at HN
 rw[ha,Int.toNat_natCast]
 rw[ha,Int.natAbs_natCast]at h1
 clear hn x0 ha
 generalize za x=X at *
 generalize x.den=d at *
 have hq:a / d≤a:=Nat.div_le_self _ _
 have e1:(a:Int).tdiv (d:Int)=((a / d:Nat):Int):=by rw[Int.natCast_ediv,Int.tdiv_eq_ediv_of_nonneg (by omega)]
 have e2:¬ (a:Int).tmod (d:Int)<0:=by have:=Int.tmod_nonneg (b:=(d:Int)) (show (0:Int)≤a by omega);omega
 have e3:¬ (a:Int) % (d:Int)<0:=by have:=Int.emod_nonneg (a:Int) (show (d:Int)≠0 by omega);omega
 have e4:(a:Int) / (d:Int)=((a / d:Nat):Int):=(Int.natCast_ediv a d).symm
 have hdz:((d:Int) == 0)=false:=by simp;omega
 have hdn:(d:Int)≠0:=by omega
 generalize a / d=k at *
 go_enter Tryz.func306,Tryz.ntmps306
 have hQ0:=Q.refl w
 go_wp2_with fail
 refine(HN.out _).mono ?_
 rintro e w1⟨rfl,hq1⟩
 have hs1:Q w w1:=Q.trans bt hq1
 have hQ1:Q w w1:=Q.trans hQ0 hs1
 go_wp2_with fail
 refine(zaq _ (by omega) (by omega) _ (hE.ofQ bt)).mono ?_
 rintro e w2⟨rfl,hq2⟩
 have hQ2:Q w w2:=Q.trans hQ1 (Q.trans bt hq2)
 go_wp2
 go_ret2
 exact⟨by rfl,hQ2⟩
end
section
open Go.RowKit Kp
open Go.Lib (decDigits)
theorem zii(b:Nat)(t:TypeId)(w:World)(hb:Blk w b [.string ⟨#[48]⟩,.string ⟨#[49]⟩] t)(f:Value) :
  Calls Tryz.prog 82 #[.slice (some ⟨b,0,none⟩) 1 1,f] w fun e w'=>e=.returned (.int .i64 0)∧Q w w':=by
 have lb:=hb.lt
 go_enter Tryz.func82,Tryz.ntmps82
 go_wp2
 go_loopw [13] (fun i wr=>(i=.int .i64 0∨i=.int .i64 1)∧Q w wr) (fun i _=>1 - (intOf i).toNat)
 case atStart=>exact⟨.inl rfl,Below.refl _ _⟩
 case round =>
  obtain⟨rfl | rfl,hQ⟩:=hrel
  ·have hB:=hb.keep hQ lb
   have c0:=hB.cell 0
   have c1:=hB.cell 1
   have l1:=hB.lt
   simp only[zs4,zs5]at c0 c1
   have hq0:Q w (wr.alloc (Obj.cells [.string ⟨#[48]⟩,.string ⟨#[49]⟩].toArray 84)):=hQ.alloc hQ.size _
   go_wp2
   try (go_quiet (fail);go_wp2)
   go_roundw
   case rel=>exact⟨.inr rfl,by first | exact hq0 | exact Below.drewN hq0 _⟩
   case measure=>simp[intOf]
  ·go_wp2
   go_ret
   exact⟨rfl,hQ⟩
theorem zje(b:Nat)(t:TypeId)(w:World)(hE:Env w)(hb:Blk w b [.string ⟨#[48]⟩,.string ⟨#[49]⟩] t) :
  Calls Tryz.prog 38 #[.slice (some ⟨b,0,none⟩) 1 1] w fun e w'=>e=.returned (.tuple #[.slice none 0 0,.int .i64 0])∧Q w w':=by
 have l0:=hb.lt
 have hc0:=fun w hw=>zm 0 (show zak 0=false by unfold zak;rw[show ((0:Rat)).num=0 from rfl,show (((0:Rat)).den:Int)=1 from rfl,zdh,zcB];rfl) w hw
 have hc1:=fun w hw=>zm 1 (show zak 1=false by unfold zak;rw[show ((1:Rat)).num=1 from rfl,show (((1:Rat)).den:Int)=1 from rfl,zdh];rfl) w hw
 rw[zI]at hc0
 rw[zaM]at hc1
 have HC0:=LH hc0
 have HC1:=LH hc1
 clear hc0 hc1
 go_enter Tryz.func38,Tryz.ntmps38
 go_wp2
 go_loopw [18] (fun i wr=>(i=.int .i64 0∨i=.int .i64 1)∧Q w wr) (fun i _=>1 - (intOf i).toNat)
 case atStart=>exact⟨.inl rfl,Below.refl _ _⟩
 case round =>
  obtain⟨rfl | rfl,hQ⟩:=hrel
  ·have hB:=hb.keep hQ l0
   have c0:=hB.cell 0
   have c1:=hB.cell 1
   have l1:=hB.lt
   simp only[zs4,zs5]at c0 c1
   go_wp2_with fail
   have hq0:Q w (wr.alloc (Obj.cells [.string ⟨#[48]⟩,.string ⟨#[49]⟩].toArray 84)):=hQ.alloc hQ.size _
   have BT:=Blk.new wr [.string ⟨#[48]⟩,.string ⟨#[49]⟩] 84
   refine(HC0.out _ (hE.q hq0)).mono ?_
   rintro e w1⟨rfl,hq1⟩
   have hQ1:=Q.trans hq0 hq1
   have B1:=BT.keep hq1 (by simp)
   have d1:=B1.cell 1
   simp only[zs4,zs5]at d1
   clear hq1 hq0 BT c0 c1
   go_wp2_with fail
   refine(HC1.out _ (hE.q hQ1)).mono ?_
   rintro e w2⟨rfl,hq2⟩
   have hQ2:=Q.trans hQ1 hq2
   have B2:=B1.keep hq2 B1.lt
   have d2:=B2.cell 1
   simp only[zs4,zs5]at d2
   clear hq2 hQ1 B1 d1
   go_wp2_with fail
   refine(zG [49] _).mono ?_
   rintro e w3⟨rfl,rfl⟩
   rw[show decide (([49]:Str).head? = some 45)=false by decide]
   go_wp2
   go_roundw
   case rel=>exact⟨.inr rfl,hQ2⟩
   case measure=>simp[intOf]
  ·go_wp2_with fail
   have hBb:=(hb.keep hQ l0).alloc (Obj.cells #[Value.slice none 0 0] 144)
   have hG:=Blk.new wr [Value.slice none 0 0] 144
   refine(zii b t _ hBb _).mono ?_
   rintro e w1⟨rfl,hq1⟩
   have hQ1:Q w w1:=Q.trans (hQ.alloc hQ.size _) hq1
   replace hG:=hG.keep hq1 hG.lt
   have g0:=hG.cell 0
   simp only[List.getElem?_cons_zero]at g0
   go_wp2_with fail
   go_loopw [10,47] (fun o i wr2=>o=.slice none 0 0∧i=.int .i64 0∧wr2=w1) (fun _ i _=>1 - (intOf i).toNat)
   case atStart=>exact⟨rfl,rfl,rfl⟩
   case round =>
    obtain⟨rfl,rfl,rfl⟩:=hrel
    go_wp2_with fail
    refine(zcZ _ _ _ _).mono ?_
    rintro e w2⟨⟨u,rfl⟩,rfl⟩
    go_wp2
    go_ret2
    exact⟨rfl,hQ1⟩
theorem zio(l2:List (Str × Str))(h2:0<l2.length)(n2:l2.length≤1000)(v2:Value)(b:Nat)(t:TypeId)(w:World)(hb:Blk w b [.slice none 0 0,v2] t)(s2:TSl w w.heap.size v2 l2) :
  Calls Tryz.prog 105 #[.slice (some ⟨b,0,none⟩) 2 2] w fun e w'=>∃ v,e=.returned v∧Q w w'∧w'.ownsRow w.heap.size 84 2 v l2.length (zcn l2):=by
 have S2:=LH s2
 obtain⟨b2,o2,cap2,rfl,-,-,-⟩:=s2.open h2
 have hg:=fun w=>zlW l2.length (by omega) (by omega) w
 have HG:=LH hg
 clear s2 hg
 have HN2:=LH (fun(W:World) (hq:Q w W) (j:Nat) (u:Value) (hu:(zcn l2)[j]? = some u)=>by
  obtain⟨b',o',cap',hv,_,_,hc⟩:=(S2.out.keep hq (Nat.le_refl _)).open h2
  cases hv
  exact hc j u hu)
 have HL2:=LH (zh4 l2)
 have HO2:=LH (zh3 l2)
 generalize zcn l2=r2 at *
 generalize l2.length=m2 at *
 have lb:=hb.lt
 obtain⟨i0,hi,hz0,hz1,hz2⟩:=zb6 zdv
 have HI:=LH hi
 have HZ:=LH hz0
 have HS:=LH hz1
 have HBy:=LH hz2
 clear hi hz0 hz1 hz2
 have c0:=hb.cell 0
 have c1:=hb.cell 1
 simp only[zs4,zs5]at c0 c1
 have w1i:=Go.IntWalk.i64_in ((0:Int)+(m2:Int)) (by omega)
 go_enter Tryz.func105,Tryz.ntmps105
 go_wp2
 go_loop [3,11] (fun sz i=>(i=.int .i64 0∧sz=.int .i64 0)∨(i=.int .i64 1∧sz=.int .i64 0)∨(i=.int .i64 2∧sz=.int .i64 (m2:Int))) (fun _ i=>2 - (intOf i).toNat)
 case atStart=>exact .inl ⟨rfl,rfl⟩
 case round =>
  rcases hrel with⟨rfl,rfl⟩|⟨rfl,rfl⟩|⟨rfl,rfl⟩
  ·go_wp2
   go_round
   case rel=>exact .inr (.inl ⟨rfl,by first | rfl | go_num⟩)
   case measure=>simp[intOf]
  ·go_wp2
   go_round
   case rel=>exact .inr (.inr ⟨rfl,by go_num⟩)
   case measure=>simp[intOf]
  ·go_wp2_with fail
   refine(HG.out _).mono ?_
   rintro e w1⟨v,rfl,hq1,hr1,g1,gc1,rfl⟩
   clear c0 c1
   have hb1:=hb.keep hq1 lb
   go_wp2
   go_loopw [6,27] (fun o i wr=>Q w wr∧((i=.int .i64 0∧o=.slice (some ⟨g1,0,none⟩) 0 gc1∧wr.ownsRow w.heap.size 84 2 o 0 [])∨(i=.int .i64 1∧o=.slice (some ⟨g1,0,none⟩) 0 gc1∧wr.ownsRow w.heap.size 84 2 o 0 [])∨(i=.int .i64 2∧wr.ownsRow w.heap.size 84 2 o m2 r2))) (fun _ i _=>2 - (intOf i).toNat)
   case atStart=>exact⟨hq1,.inl ⟨rfl,rfl,hr1⟩⟩
   case round =>
    obtain⟨hQ,⟨rfl,rfl,hrow⟩|⟨rfl,rfl,hrow⟩|⟨rfl,hrow⟩⟩:=hrel
    ·have hbr:=hb.keep hQ lb
     have c0:=hbr.cell 0
     simp only[List.getElem?_cons_zero]at c0
     have lbr:=hbr.lt
     go_wp2
     try (go_quiet (fail);go_wp2)
     go_roundw
     case rel=>exact⟨hQ,.inr (.inl ⟨rfl,rfl,hrow⟩)⟩
     case measure=>simp[intOf]
    ·have hbr:=hb.keep hQ lb
     have c1:=hbr.cell 1
     simp only[zs4,zs5]at c1
     have lbr:=hbr.lt
     go_wp2_with (at_builtin;refine wpList_append_lies _ (by rfl) (.tmp 31) (.tmp 32) 46 (by rfl) w.heap.size 84 i0 _ 2 32 Tryz.underlying46 HI.out HZ.out HS.out HBy.out rfl (by decide) (.slice (some ⟨g1,0,none⟩) 0 gc1) 0 [] (by rfl) hrow ⟨b2,o2,none⟩ m2 cap2 r2 (by rfl) HL2.out (HN2.out _ hQ) HO2.out h2 (by unfold maxLen;omega) (by omega) hQ.size _ (by rfl) ?_;intro g4 cap4 w4 hown4 hgrow4 hat4 hlt4)
     go_roundw
     case rel=>exact⟨hQ.grown hgrow4 hQ.size (fun k hk=>(hrow.lt k hk).1),.inr (.inr ⟨rfl,by rw[Nat.zero_add,List.nil_append]at hown4;simpa using hown4⟩)⟩
     case measure=>simp[intOf]
    ·go_wp2
     go_ret
     exact⟨_,rfl,hQ,hrow⟩
theorem zfx(w:World):Calls Tryz.prog 42 #[.slice none 0 0] w fun e w'=>e=.returned (.int .i64 0)∧Q w w':=by
 go_enter Tryz.func42,Tryz.ntmps42
 go_wp2
 go_loopw [13] (fun i wr=>i=.int .i64 0∧wr=w) (fun _ _=>0)
 case atStart=>exact⟨rfl,rfl⟩
 case round =>
  obtain⟨rfl,rfl⟩:=hrel
  go_wp2
  go_ret
  exact⟨rfl,bt⟩
theorem zkc(x:Rat)(l:Nat)(hx:Term1 x l)(B:Nat)(v:Value)(w:World)(hE:Env w)(h:zaJ w B v x l) :
  Calls Tryz.prog 39 #[.slice none 0 0,v] w fun e w'=>e=.returned (.bool true)∧Q w w':=by
 have HC:=LH (fun w hw hv=>zaV x l hx B v w hw hv)
 have HN:=LH (fun w=>zfx w)
 have HV:=LH h
 clear hx h
 go_enter Tryz.func39,Tryz.ntmps39
 have hQ0:=Q.refl w
 go_wp2_with fail
 refine(HN.out _).mono ?_
 rintro e w1⟨rfl,hq1⟩
 have hs1:Q w w1:=Q.trans bt hq1
 have hQ1:Q w w1:=Q.trans hQ0 hs1
 go_wp2_with fail
 refine(HC.out _ (hE.q hQ1) (zU HV.out hQ1)).mono ?_
 rintro e w2⟨rfl,hq2⟩
 have hs2:Q w1 w2:=Q.trans bt hq2
 have hQ2:Q w w2:=Q.trans hQ1 hs2
 go_wp2
 go_ret
 exact⟨rfl,bt⟩
theorem zqH{x:Rat}{l:Nat}(px:0<x.num)(hl:0<l)(dx:x.den<10 ^ 8):zef [(-x,l)]=some (-1):=by
 rw[sign_one (by rw[zbq];omega) hl (by rw[zh6];exact Nat.lt_of_lt_of_le dx (by decide)),if_neg (by rw[zbq];omega)]
theorem zoH{x y:Rat}{l m:Nat}(hx:x.num<0)(hy:y.num<0)(hl:0<l)(hm:0<m)(dx:x.den<10 ^ 60):zef [(x,l),(y,m)]=some (-1):=by
 have hU:∀ P,0<zbc x l P:=fun P=>(zia x l P (zfl (by omega) hl)).2.1
 have hV:∀ P,0<zbc y m P:=fun P=>(zia y m P (zfl (by omega) hm)).2.1
 have h64:10000≤zbc x l 64:=by
  have h1:=zl0 (x:=x) (P:=64) (by omega) hl
  have h2:10000≤zl (zy x l 64) / x.den:=by
   rw[Nat.le_div_iff_mul_le x.den_pos]
   have:10000*x.den≤10 ^ 64:=Nat.le_trans (Nat.mul_le_mul_left 10000 (Nat.le_of_lt dx)) (by decide)
   omega
  unfold zbc;split <;> omega
 have hs:∀ P,zbB [(x,l),(y,m)] P = -((zbc x l P:Nat):Int) + -((zbc y m P:Nat):Int):=fun P=>by
  simp only[zbB]
  rw[zd9 hx,zd9 hy];omega
 refine zgg (by simp) (fun P b _=>?_) ?_
 ·rw[hs]
  have:=hU P
  have:=hV P
  unfold zbS
  rw[if_neg (by omega)]
  split
  ·exact .inr rfl
  ·exact .inl rfl
 ·rw[hs]
  have:=hV 64
  unfold zbS
  rw[if_neg (by omega),if_pos (.inl (by simp only[List.length_cons,List.length_nil];omega))]
theorem ziI{a b:Rat}(ha:a.num<0)(hb:b.num<0):(a+b).num<0:=by
 have h1:0<(-a).num:=by rw[zbq];omega
 have h2:0<(-b).num:=by rw[zbq];omega
 have h3:0≤(-a)+(-b):=Rat.add_nonneg (Rat.num_nonneg.1 (by omega)) (Rat.num_nonneg.1 (by omega))
 have h4:(-a)+(-b)≠0:=fun e=>by
  have h5:-a=b:=by grind
  rw[h5]at h1
  omega
 have h6:0≤((-a)+(-b)).num:=Rat.num_nonneg.2 h3
 have h7:((-a)+(-b)).num≠0:=fun e=>h4 (Rat.num_eq_zero.1 e)
 have h8:a+b = -((-a)+(-b)):=by grind
 rw[h8,zbq];omega
theorem ziH{a k:Rat}(ha:a.num<0)(hk:0<k.num):(a*k).num<0:=by
 have h1:=zfV (a:=-a) (b:=k) (by rw[zbq];omega) hk
 rw[Rat.neg_mul,zbq]at h1
 omega
theorem zqI{x y:Rat}{l m:Nat}(px:x.num<0)(py:0<y.num)(hl:0<l)(hm:0<m)(bx:Bd 20 x)(bY:Bd 20 y)(bl:l<10 ^ 16)(bm:m<10 ^ 16) :
  zef (zfJ (zcq (zbA [(x,l)] (-y,m))))=some (-1)∧(∀ c∈zbA [(x,l)] (-y,m),Bd 50 c.1∧0<c.2∧c.2<10 ^ 16):=by
 have hny:Bd 20 (-y):=zna bY
 have ny:(-y).num<0:=by rw[zbq];omega
 have bk:∀ a b:Nat,0<a→a<10 ^ 16→b<10 ^ 16→Bd 8 (sqR ((b:Rat) / (a:Rat))):=fun a b ha h1 h2=>zo0 (n:=8) (zmv ha h1 h2)
 have key:∀ (z:Rat) (n:Nat),z.num<0→Bd 49 z→0<n→n<10 ^ 16→zbA [(x,l)] (-y,m)=[(z,n)]→zef (zfJ (zcq (zbA [(x,l)] (-y,m))))=some (-1)∧(∀ c∈zbA [(x,l)] (-y,m),Bd 50 c.1∧0<c.2∧c.2<10 ^ 16):=by
  intro z n hz hb hn hn2 e
  have hz0:z≠0:=fun e=>by rw[e]at hz;simp at hz
  rw[e]
  refine⟨?_,fun c hc=>?_⟩
  ·rw[show zcq [(z,n)]=[(z,n)] by unfold zcq;simp[hz0],show zfJ [(z,n)]=[(z,n)]from rfl,sign_one (by omega) hn (Nat.lt_of_lt_of_le hb.2 (by decide)),if_neg (by omega)]
  ·rw[List.mem_singleton]at hc;subst hc;exact⟨hb.mono (by decide),hn,hn2⟩
 by_cases hq:zfD ((m:Rat) / (l:Rat))=true
 ·by_cases hml:m<l
  ·refine key (-y+x*sqR ((l:Rat) / (m:Rat))) m ?_ (hny.add (bx.mul (bk m l hm bm bl))) hm bm ?_
   ·exact ziI ny (ziH px (zkh (zc6 hm hl).1))
   ·unfold zbA zcK
    rw[if_pos hq,if_pos hml]
  ·refine key (x + -y*sqR ((m:Rat) / (l:Rat))) l ?_ (bx.add (hny.mul (bk l m hl bl bm))) hl bl ?_
   ·exact ziI px (ziH ny (zkh (zc6 hl hm).1))
   ·unfold zbA zcK
    rw[if_pos hq,if_neg hml]
 ·have e2:zbA [(x,l)] (-y,m)=[(x,l),(-y,m)]:=by
   unfold zbA
   rw[if_neg hq]
   rfl
  have hx0:x≠0:=fun e=>by rw[e]at px;simp at px
  have hy0:-y≠0:=fun e=>by rw[e]at ny;simp at ny
  rw[e2]
  refine⟨?_,fun c hc=>?_⟩
  ·rw[show zcq [(x,l),(-y,m)]=[(x,l),(-y,m)] by unfold zcq;simp[hx0,hy0]]
   show zef (if m<l then [(-y,m),(x,l)]else [(x,l),(-y,m)])=_
   split
   ·exact zoH ny px hm hl (Nat.lt_of_lt_of_le hny.2 (by decide))
   ·exact zoH px ny hl hm (Nat.lt_of_lt_of_le bx.2 (by decide))
  ·rw[List.mem_cons,List.mem_singleton]at hc
   rcases hc with rfl | rfl
   ·exact⟨bx.mono (by decide),hl,bl⟩
   ·exact⟨hny.mono (by decide),hm,bm⟩
theorem zeD(x y:Rat)(l m:Nat)(hx:Term1 x l)(hy:Term1 y m)(bx:Bd 20 x)(bY:Bd 20 y)(bl:l<10 ^ 16)(bm:m<10 ^ 16)(σ:Int)(hs:zef (zfJ (zcq (zbA [(x,l)] (-y,m))))=some σ)(hcb:∀ c∈zbA [(x,l)] (-y,m),Bd 50 c.1∧0<c.2∧c.2<10 ^ 16)
  (B1 B2:Nat)(v1 v2:Value)(w:World)(hE:Env w)(h1:zaJ w B1 v1 x l)(h2:zaJ w B2 v2 y m) :
  Calls Tryz.prog 16 #[v1,v2] w fun e w'=>e=.returned (.tuple #[.int .i64 σ,.int .i64 0])∧Q w w':=by
 have HSUB:=LH (zht x y l m hx hy bx bY bl bm hcb B1 B2 v1 v2 w hE h1 h2)
 have hvs:∀ t∈zfJ (zcq (zbA [(x,l)] (-y,m))),VS t:=fun t ht=>by
  obtain⟨a1,a2,a3⟩:=hcb t (zkK (znc ht))
  exact⟨a1.mono (by decide),Nat.lt_of_lt_of_le a3 (by decide)⟩
 have hlen:(zfJ (zcq (zbA [(x,l)] (-y,m)))).length≤1000:=by
  have h1:=zkf (zcq (zbA [(x,l)] (-y,m)))
  have h2:=zgx (zbA [(x,l)] (-y,m))
  have h3:=zgV [(x,l)] (-y,m)
  simp at h3;omega
 have hsg:=fun v w hw hp hsl=>zik (zfJ (zcq (zbA [(x,l)] (-y,m)))) hvs hlen v w hw hp hsl
 have hv:zdH (zfJ (zcq (zbA [(x,l)] (-y,m))))=.tuple #[.int .i64 σ,.int .i64 0]:=by unfold zdH;rw[hs]
 rw[hv]at hsg
 have HSG:=LH hsg
 obtain⟨g1,c1,rfl,-,-⟩:=World.ownsRow.form h1 (by omega)
 obtain⟨g2,c2,rfl,-,-⟩:=World.ownsRow.form h2 (by omega)
 generalize zfJ (zcq (zbA [(x,l)] (-y,m)))=R at *
 clear hs hcb hvs hsg hv hx hy bx bY bl bm h1 h2
 go_enter Tryz.func16,Tryz.ntmps16
 go_wp2_with fail
 refine HSUB.out.mono ?_
 rintro e w1⟨v,rfl,hq1,hr⟩
 have HR:=LH hr
 obtain⟨a,cap,hv⟩:=zfj hr
 rw[List.length_map]at hv
 subst hv
 clear hr hlen
 go_wp2_with fail
 refine(HSG.out _ _ (hE.q hq1) ((hE.q hq1).places) (TSl.of_row HR.out)).mono ?_
 rintro e w2⟨rfl,hq2⟩
 have hQ2:=Q.trans hq1 hq2
 go_wp2
 go_ret2
 exact⟨rfl,hQ2⟩
theorem zfw{n:Nat}(x c:Rat)(l:Nat)(hx:Term1 x l)(bx:Bd 40 x)(bc:Bd n c)(hn:n≤20)(hc0:c≠0)(hl:l<10 ^ 40)(B:Nat)(v:Value)(w:World)(hE:Env w)(hv:zaJ w B v x l) :
  Calls Tryz.prog 11 #[v,.string ⟨(za c).toArray⟩] w fun e w'=>∃ v',e=.returned (.tuple #[v',.int .i64 0])∧Q w w'∧zaJ w' w.heap.size v' (x*c) l:=by
 have HC:=LH (zaV x l hx B v w hE hv)
 have HR:=LH (fun w hw=>zm c (bc.zak (by omega)) w hw)
 have hsc:=fun v w hw hs=>zee [(x,l)] c (bc.mono (by omega)) (fun t ht=>by rw[List.mem_singleton]at ht;subst ht;exact bx.mono (by decide)) (by simp) v w hw hs
 rw[show (zcI c [(x,l)]).map ofC=[ofC (x*c,l)] by simp[zcI]]at hsc
 have HSC:=LH hsc
 have hb:Bd 60 (x*c):=(bx.mul bc).mono (by omega)
 have hne:x*c≠0:=fun e=>by
  rcases Rat.mul_eq_zero.1 e with h | h
  ·exact hx.ne h
  ·exact hc0 h
 have hlq:Bd 42 (l:Rat):=⟨by rw[Rat.num_natCast,Int.natAbs_natCast];exact Nat.lt_of_lt_of_le hl (by decide),by rw[Rat.den_natCast];exact by decide⟩
 have hl40:Bd 40 (l:Rat):=⟨by rw[Rat.num_natCast,Int.natAbs_natCast];exact hl,by rw[Rat.den_natCast];exact by decide⟩
 have hmk:∀ (rest:List Value) (cap b:Nat) (t:TypeId) (w:World),Env w→Blk w b (.string ⟨(za (x*c)).toArray⟩::.string ⟨(Lib.itoa (l:Int)).toArray⟩::rest) t →
   Calls Tryz.prog 38 #[.slice (some ⟨b,0,none⟩) 1 cap] w fun e w'=>∃ v',e=.returned (.tuple #[v',.int .i64 0])∧Q w w'∧zaJ w' w.heap.size v' (x*c) l:=fun rest cap b t w hw hb'=>by
  have h:=zdG (rest:=rest) (cap:=cap) (x*c) (l:Rat) hb (by decide) hne hlq (by rw[Rat.num_natCast];have:=hx.norm.1;omega) b t w hw (by rw[zT];exact hb')
  have hp:=zdY hx.norm
  rw[hp.1,Rat.mul_one,zkR,hp.2]at h
  refine h.mono fun e w' he=>?_
  obtain⟨hq,v,hv,hs⟩:=zdP.good (l:=l) he (by have:=zbd hb (by decide);omega) (by have:=zbd hl40 (by decide);omega)
  exact⟨v,hv,hq,hs⟩
 have HMK:=LH hmk
 have r1:Hid (w.ownsRow B 84 2 v ([(x,l)].map ofC).length (zcn ([(x,l)].map ofC))):=LH hv
 obtain⟨g1,c1,rfl,-,-⟩:=World.ownsRow.form hv (by omega)
 clear hx bx bc hn hc0 hl hsc hb hne hlq hl40 hmk hv
 unfold zaJ at HMK ⊢
 have hP1:(ofC (x*c,l)).1=za (x*c):=rfl
 have hP2:(ofC (x*c,l)).2=Lib.itoa (l:Int):=rfl
 rw[← hP1,← hP2]at HMK
 rw[← hP1,← hP2]
 clear hP1 hP2
 generalize ofC (x*c,l)=P1 at *
 generalize za c=C at *
 go_enter Tryz.func11,Tryz.ntmps11
 go_wp2_with fail
 refine HC.out.mono ?_
 rintro e w1⟨rfl,hq1⟩
 go_wp2_with fail
 refine(HR.out _ (hE.q hq1)).mono ?_
 rintro e w2⟨rfl,hq2⟩
 have hQ2:=Q.trans hq1 hq2
 go_wp2_with fail
 refine(HSC.out _ _ (hE.q hQ2) (TSl.of_row (zf r1.out hQ2))).mono ?_
 rintro e w3⟨v3,rfl,hq3,hr3⟩
 have hQ3:=Q.trans hQ2 hq3
 obtain⟨g3,c3,rest3,rfl,-,hb3⟩:=zmn (P:=.string ⟨P1.1.toArray⟩) (R:=.string ⟨P1.2.toArray⟩) hr3
 clear hr3
 go_wp2_with fail
 refine(HMK.out rest3 c3 g3 _ _ (hE.q hQ3) hb3).mono ?_
 rintro e w4⟨v4,rfl,hq4,hr4⟩
 have hQ4:=Q.trans hQ3 hq4
 have R4:=LH (Joins.ownsRow_le hr4 hQ3.size)
 clear hr4
 go_wp2
 go_ret2
 exact⟨_,rfl,hQ4,R4.out⟩
end
end Go.Proofs.YtbpghkdadajomaaGreatDoor
namespace Kp
structure FloorIs (F X d:Nat):Prop where
 lo:F*F*d≤X
 hi:X<(F+1)*(F+1)*d
theorem zsF{a n k d:Nat}(hn:0<n)(hd:0<d)(h:a*n=k*d):a / d=k / n:=by
 rw[← Nat.mul_div_mul_right a d hn,← Nat.mul_div_mul_right k n hd,h,Nat.mul_comm d n]
theorem zqZ{N D X dd:Nat}(hD:0<D)(hdd:0<dd)(h:N*dd=X*D):FloorIs (zl ((N*(1000*1000)) / (D*(1*1))) / 1000) X dd:=by
 simp only[Nat.mul_one]
 obtain⟨h1,h2⟩:=zby ((N*(1000*1000)) / D)
 generalize zl ((N*(1000*1000)) / D)=K at *
 have a1:K*K*D≤N*(1000*1000):=by
  have:=Nat.mul_le_mul_right D h1
  exact Nat.le_trans this (Nat.div_mul_le_self _ _)
 have a2:N*(1000*1000)<(K+1)*(K+1)*D:=(Nat.div_lt_iff_lt_mul hD).1 h2
 obtain⟨F,hF⟩:∃ F,K / 1000=F:=⟨_,rfl⟩
 rw[hF]
 have b1:F*1000≤K:=by omega
 have b2:K+1≤(F+1)*1000:=by omega
 have c1:(F*1000)*(F*1000)≤K*K:=Nat.mul_le_mul b1 b1
 have c2:(K+1)*(K+1)≤((F+1)*1000)*((F+1)*1000):=Nat.mul_le_mul b2 b2
 have d1:F*F*D≤N:=by
  have:=Nat.le_trans (Nat.mul_le_mul_right D c1) a1
  have e:F*1000*(F*1000)*D=F*F*D*(1000*1000):=by ac_rfl
  rw[e]at this
  exact Nat.le_of_mul_le_mul_right this (by decide)
 have d2:N<(F+1)*(F+1)*D:=by
  have:=Nat.lt_of_lt_of_le a2 (Nat.mul_le_mul_right D c2)
  have e:(F+1)*1000*((F+1)*1000)*D=(F+1)*(F+1)*D*(1000*1000):=by ac_rfl
  rw[e]at this
  exact Nat.lt_of_mul_lt_mul_right this
 refine⟨?_,?_⟩
 ·have:=Nat.mul_le_mul_right dd d1
  rw[h]at this
  have e:F*F*D*dd=F*F*dd*D:=by ac_rfl
  rw[e]at this
  exact Nat.le_of_mul_le_mul_right this hD
 ·have:=Nat.mul_lt_mul_of_pos_right d2 hdd
  rw[h]at this
  have e:(F+1)*(F+1)*D*dd=(F+1)*(F+1)*dd*D:=by ac_rfl
  rw[e]at this
  exact Nat.lt_of_mul_lt_mul_right this
end Kp
namespace Go.Proofs.YtbpghkdadajomaaGreatDoor
section
open Go.RowKit Kp
open Go.Lib (decDigits)
theorem zeE(x:Rat)(l:Nat)(hx:Term1 x l)(px:0<x.num)(bx:Bd 20 x)(dx:x.den<10 ^ 8)(bl:l<10 ^ 16)(B:Nat)(v:Value)(w:World)(hE:Env w)(hv:zaJ w B v x l) :
  Calls Tryz.prog 16 #[.slice none 0 0,v] w fun e w'=>e=.returned (.tuple #[.int .i64 (-1),.int .i64 0])∧Q w w':=by
 have HB:=LH (zkc x l hx B v w hE hv)
 have hsc:=fun v w hw hs=>zee [(x,l)] (-1) zhL (fun t ht=>by rw[List.mem_singleton]at ht;subst ht;exact bx.mono (by decide)) (by simp) v w hw hs
 rw[zfy,show (zcI (-1) [(x,l)]).map ofC=[ofC (-x,l)] by simp[zcI,zgA]]at hsc
 have HSC:=LH hsc
 have HCC:=LH (fun v2 b t w hb s2=>zio [ofC (-x,l)] (by simp) (by simp) v2 b t w hb s2)
 have hny:Bd 60 (-x):=(zna bx).mono (by decide)
 have hne:-x≠0:=fun e=>hx.ne (by have:=congrArg (fun q=>-q) e;simpa using this)
 have hlq:Bd 42 (l:Rat):=⟨by rw[Rat.num_natCast,Int.natAbs_natCast];exact Nat.lt_of_lt_of_le bl (by decide),by rw[Rat.den_natCast];exact by decide⟩
 have hl40:Bd 40 (l:Rat):=⟨by rw[Rat.num_natCast,Int.natAbs_natCast];exact Nat.lt_of_lt_of_le bl (by decide),by rw[Rat.den_natCast];exact by decide⟩
 have hmk:∀ (rest:List Value) (cap b:Nat) (t:TypeId) (w:World),Env w→Blk w b (.string ⟨(za (-x)).toArray⟩::.string ⟨(Lib.itoa (l:Int)).toArray⟩::rest) t →
   Calls Tryz.prog 38 #[.slice (some ⟨b,0,none⟩) 1 cap] w fun e w'=>∃ v',e=.returned (.tuple #[v',.int .i64 0])∧Q w w'∧zaJ w' w.heap.size v' (-x) l:=fun rest cap b t w hw hb'=>by
  have h:=zdG (rest:=rest) (cap:=cap) (-x) (l:Rat) hny (by decide) hne hlq (by rw[Rat.num_natCast];have:=hx.norm.1;omega) b t w hw (by rw[zT];exact hb')
  have hp:=zdY hx.norm
  rw[hp.1,Rat.mul_one,zkR,hp.2]at h
  refine h.mono fun e w' he=>?_
  obtain⟨hq,v,hv,hs⟩:=zdP.good (l:=l) he (by have:=zbd hny (by decide);omega) (by have:=zbd hl40 (by decide);omega)
  exact⟨v,hv,hq,hs⟩
 have HMK:=LH hmk
 have hsg:=fun v w hw hp hsl=>zik [(-x,l)] (fun t ht=>by rw[List.mem_singleton]at ht;subst ht;exact⟨hny,Nat.lt_of_lt_of_le bl (by decide)⟩) (by simp) v w hw hp hsl
 have hvv:zdH [(-x,l)]=.tuple #[.int .i64 (-1),.int .i64 0]:=by unfold zdH;rw[zqH px hx.norm.1 dx]
 rw[hvv]at hsg
 have HSG:=LH hsg
 have r1:Hid (w.ownsRow B 84 2 v ([(x,l)].map ofC).length (zcn ([(x,l)].map ofC))):=LH hv
 obtain⟨g1,c1,rfl,-,-⟩:=World.ownsRow.form hv (by omega)
 clear hx px bx dx bl hsc hny hne hlq hl40 hmk hsg hvv hv
 have HSUB:Hid (Calls Tryz.prog 53 #[.slice none 0 0,.slice (some ⟨g1,0,none⟩) 1 c1] w fun e w'=>∃ v',e=.returned (.tuple #[v',.int .i64 0])∧Q w w'∧zaJ w' w.heap.size v' (-x) l):=LH (by
  unfold zaJ at HMK ⊢
  have hP1:(ofC (-x,l)).1=za (-x):=rfl
  have hP2:(ofC (-x,l)).2=Lib.itoa (l:Int):=rfl
  rw[← hP1,← hP2]at HMK
  rw[← hP1,← hP2]
  clear hP1 hP2 HSG
  generalize ofC (-x,l)=P1 at *
  go_enter Tryz.func53,Tryz.ntmps53
  go_wp2_with fail
  refine HB.out.mono ?_
  rintro e w1⟨rfl,hq1⟩
  go_wp2_with fail
  refine(HSC.out _ _ (hE.q hq1) (TSl.of_row (zf r1.out hq1))).mono ?_
  rintro e w2⟨v3,rfl,hq2,hr3⟩
  have hQ2:=Q.trans hq1 hq2
  have R3:=LH hr3
  obtain⟨g3,c3,rfl,-,-⟩:=hr3.form (by simp)
  clear hr3
  go_wp2_with fail
  have hb:=Blk.new w2 [.slice none 0 0,.slice (some ⟨g3,0,none⟩) 1 c3] 46
  have hqa:=hQ2.alloc hQ2.size (Obj.cells [.slice none 0 0,.slice (some ⟨g3,0,none⟩) 1 c3].toArray 46)
  refine(HCC.out _ _ _ _ hb (TSl.of_row (R3.out.alloc _))).mono ?_
  rintro e w3⟨v4,rfl,hq3,hr4⟩
  have hQ3:=Q.trans hqa hq3
  obtain⟨g4,c4,rest4,rfl,-,hb4⟩:=zmn (P:=.string ⟨P1.1.toArray⟩) (R:=.string ⟨P1.2.toArray⟩) hr4
  clear hr4
  go_wp2_with fail
  refine(HMK.out rest4 c4 g4 _ _ (hE.q hQ3) hb4).mono ?_
  rintro e w4⟨v5,rfl,hq4,hr5⟩
  have hQ4:=Q.trans hQ3 hq4
  have HR5:=LH (Joins.ownsRow_le hr5 hQ3.size)
  clear hr5
  go_wp2
  go_ret2
  exact⟨_,rfl,hQ4,HR5.out⟩)
 clear HB HSC HCC HMK r1
 go_enter Tryz.func16,Tryz.ntmps16
 go_wp2_with fail
 refine HSUB.out.mono ?_
 rintro e w1⟨v1,rfl,hq1,hr⟩
 have HR:=LH (show w1.ownsRow w.heap.size 84 2 v1 ([(-x,l)].map ofC).length (zcn ([(-x,l)].map ofC))from hr)
 obtain⟨a,cap,rfl,-,-⟩:=World.ownsRow.form hr (by omega)
 clear hr
 go_wp2_with fail
 refine(HSG.out _ _ (hE.q hq1) ((hE.q hq1).places) (TSl.of_row HR.out)).mono ?_
 rintro e w2⟨rfl,hq2⟩
 have hQ2:=Q.trans hq1 hq2
 go_wp2
 go_ret2
 exact⟨rfl,hQ2⟩
def zoE(X d:Nat)(a:Int):Int:=if a≤0 then 1 else if a.toNat*a.toNat*d<X then 1 else if a.toNat*a.toNat*d=X then 0 else -1
structure PTerm (x:Rat) (l:Nat):Prop where
 t:Term1 x l
 pos:0<x.num
 bx:Bd 20 x
 dx:x.den<10 ^ 8
 bl:l<10 ^ 16
theorem zi6{a:Int}{n:Nat}(h:a.natAbs<10 ^ n)(hn:0<n):Bd n (a:Rat):=⟨by rw[Rat.num_intCast];exact h,by rw[Rat.den_intCast];exact Nat.one_lt_pow (by omega) (by decide)⟩
theorem zqi{a:Int}(h:a.natAbs<10 ^ 20)(h0:a≠0):Term1 (a:Rat) 1 :=
 ⟨(zi6 h (by decide)).zak (by decide),fun e=>h0 (by exact_mod_cast e),by have:=zbd (zi6 h (by decide)) (by decide);omega,zkD,(show Bd 40 ((1:Nat):Rat)from⟨by decide,by decide⟩)⟩
theorem znO{x:Rat}{l A:Nat}(hp:PTerm x l)(h:A*A*(x.den*x.den)=sqN x l):(A:Rat)=x∧1=l:=by
 have hn:0<x.num.natAbs:=by have:=hp.pos;omega
 have h1:x.num.natAbs*x.num.natAbs*l=(A*x.den)*(A*x.den):=by
  unfold sqN at h;rw[← h];ac_rfl
 obtain⟨t,ht,hl⟩:=zl3 hn h1
 have hl0:=hp.t.norm.1
 have ht0:0<t:=by
  rcases Nat.eq_zero_or_pos t with e | e
  ·rw[e]at hl;simp at hl;omega
  ·exact e
 have h2:=hp.t.norm.2
 rw[hl,zqE ht0]at h2
 have h3:t=1:=congrArg Prod.fst h2
 subst h3
 refine⟨?_,hl.symm⟩
 rw[Nat.mul_one]at ht
 have e1:x.num=((A*x.den:Nat):Int):=by have:=hp.pos;omega
 have e2:=zbI x
 rw[e1]at e2
 have e3:(x.den:Rat)≠0:=by
  have:=x.den_nz
  exact_mod_cast this
 have e4:x*(x.den:Rat)=(A:Rat)*(x.den:Rat):=by rw[e2,Rat.intCast_natCast,Rat.natCast_mul]
 grind
theorem zi0(x:Rat)(l:Nat)(hp:PTerm x l)(a:Int)(ha:a.natAbs<10 ^ 8)(B:Nat)(v:Value)(w:World)(hE:Env w)(hv:zaJ w B v x l) :
  Calls Tryz.prog 293 #[v,.string ⟨(Lib.itoa a).toArray⟩] w fun e w'=>e=.returned (.tuple #[.int .i64 (zoE (sqN x l) (x.den*x.den) a),.int .i64 0])∧Q w w':=by
 by_cases h0:a=0
 ·subst h0
  have hC:=fun w hw hv=>zeE x l hp.t hp.pos hp.bx hp.dx hp.bl B v w hw hv
  have HC:=LH hC
  have HV:=LH hv
  obtain⟨g1,c1,rfl,-,-⟩:=World.ownsRow.form hv (by omega)
  rw[show zoE (sqN x l) (x.den*x.den) 0=1 from rfl,zN]
  clear hC hp hv ha
  go_enter Tryz.func293,Tryz.ntmps293
  have hQ0:=Q.refl w
  go_wp2_with fail
  refine(zje _ _ _ (hE.ofQ bt) (Blk.new w [.string ⟨#[48]⟩,.string ⟨#[49]⟩] 84)).mono ?_
  rintro e w1⟨rfl,hq1⟩
  have hs1:Q w w1:=Q.trans bt hq1
  have hQ1:Q w w1:=Q.trans hQ0 hs1
  go_wp2_with fail
  refine(HC.out _ (hE.q hQ1) (zU HV.out hQ1)).mono ?_
  rintro e w2⟨rfl,hq2⟩
  have hs2:Q w1 w2:=Q.trans bt hq2
  have hQ2:Q w w2:=Q.trans hQ1 hs2
  go_wp2
  go_ret2
  exact⟨rfl,bt⟩
 ·have b8:Bd 8 (a:Rat):=zi6 ha (by decide)
  have b20:Bd 20 (a:Rat):=b8.mono (by decide)
  have ht:=zqi (a:=a) (Nat.lt_of_lt_of_le ha (by decide)) h0
  have hmk:∀ (b:Nat) (t:TypeId) (w:World),Env w→Blk w b [.string ⟨(Lib.itoa a).toArray⟩,.string ⟨#[49]⟩] t →
    Calls Tryz.prog 38 #[.slice (some ⟨b,0,none⟩) 1 1] w fun e w'=>∃ v',e=.returned (.tuple #[v',.int .i64 0])∧Q w w'∧zaJ w' w.heap.size v' (a:Rat) 1:=fun b t w hw hb'=>by
   have h:=zdG (rest:=[]) (cap:=1) (a:Rat) 1 b20 (by decide) ht.ne ⟨by decide,by decide⟩ (by decide) b t w hw (by rw[zaM,zc0];exact hb')
   have hn:=zdY zkD
   rw[show ((1:Nat):Rat)=1 from rfl]at hn
   rw[hn.1,Rat.mul_one,zkR,hn.2]at h
   refine h.mono fun e w' he=>?_
   obtain⟨hq,v,hv,hs⟩:=zdP.good (l:=1) he (by have:=zbd b20 (by decide);omega) (by have:=zbd ht.c40 (by decide);omega)
   exact⟨v,hv,hq,hs⟩
  have HMK:=LH hmk
  obtain⟨σ,hσ,hr,hcmp⟩:∃ σ:Int,zoE (sqN x l) (x.den*x.den) a = -σ∧(σ=1∨σ=0∨σ = -1)∧∀ B1 v1 w,Env w→zaJ w B1 v1 (a:Rat) 1→zaJ w B v x l →
    Calls Tryz.prog 16 #[v1,v] w fun e w'=>e=.returned (.tuple #[.int .i64 σ,.int .i64 0])∧Q w w':=by
   by_cases hneg:a<0
   ·obtain⟨e1,e2⟩:=zqI (x:=(a:Rat)) (y:=x) (l:=1) (m:=l) (by rw[Rat.num_intCast];exact hneg) hp.pos (by decide) hp.t.norm.1 b20 hp.bx (by decide) hp.bl
    exact⟨-1,by unfold zoE;rw[if_pos (by omega)];rfl,.inr (.inr rfl),fun B1 v1 w hw h1 h2=>zeD (a:Rat) x 1 l ht hp.t b20 hp.bx (by decide) hp.bl (-1) e1 e2 B1 B v1 v w hw h1 h2⟩
   ·obtain⟨A,rfl⟩:=Int.eq_ofNat_of_zero_le (show 0≤a by omega)
    have hA0:0<A:=by omega
    have ed:((A:Int):Rat).den=1:=Rat.den_intCast _
    have en:((A:Int):Rat).num=A:=Rat.num_intCast _
    have eS:sqN ((A:Int):Rat) 1=A*A:=by unfold sqN;rw[en,Int.natAbs_natCast,Nat.mul_one]
    have cmp:=fun σ hσ B1 v1 w hw h1 h2=>zcT ((A:Int):Rat) x 1 l ht hp.t (by rw[en];omega) hp.pos b20 hp.bx (by decide) hp.bl (by rw[ed];decide) hp.dx σ hσ B1 B v1 v w hw (Env.places hw) h1 h2
    simp only[eS,ed,Nat.mul_one]at cmp
    have eo:zoE (sqN x l) (x.den*x.den) (A:Int)=if A*A*(x.den*x.den)<sqN x l then 1 else if A*A*(x.den*x.den)=sqN x l then 0 else -1:=by
     unfold zoE;rw[if_neg (by omega),Int.toNat_natCast]
    rcases Nat.lt_trichotomy (A*A*(x.den*x.den)) (sqN x l)with h | h | h
    ·exact⟨-1,by rw[eo,if_pos h];rfl,.inr (.inr rfl),fun B1 v1 w hw h1 h2=>cmp (-1) (.inr ⟨by omega,by rw[if_neg (by omega)]⟩) B1 v1 w hw h1 h2⟩
    ·obtain⟨q1,q2⟩:=znO hp h
     exact⟨0,by rw[eo,if_neg (by omega),if_pos h];rfl,.inr (.inl rfl),fun B1 v1 w hw h1 h2=>cmp 0 (.inl ⟨by rw[Rat.intCast_natCast];exact q1,q2,rfl⟩) B1 v1 w hw h1 h2⟩
    ·exact⟨1,by rw[eo,if_neg (by omega),if_neg (by omega)],.inl rfl,fun B1 v1 w hw h1 h2=>cmp 1 (.inr ⟨by omega,by rw[if_pos h]⟩) B1 v1 w hw h1 h2⟩
  rw[hσ]
  have HC:=LH hcmp
  have HV:=LH hv
  obtain⟨g1,c1,rfl,-,-⟩:=World.ownsRow.form hv (by omega)
  clear hσ hcmp hmk ht b8 b20 hp hv ha h0
  generalize Lib.itoa a=S at *
  rcases hr with rfl | rfl | rfl
  all_goals
   go_enter Tryz.func293,Tryz.ntmps293
   have hQ0:=Q.refl w
   go_wp2_with fail
   refine(HMK.out _ _ _ (hE.ofQ bt) (Blk.new w [.string ⟨S.toArray⟩,.string ⟨#[49]⟩] 84)).mono ?_
   rintro e w1⟨v1,rfl,hq1,h1⟩
   have hs1:Q w w1:=Q.trans bt hq1
   have hQ1:Q w w1:=Q.trans hQ0 hs1
   have H1:=LH h1
   obtain⟨g2,c2,rfl,-,-⟩:=World.ownsRow.form h1 (by omega)
   clear h1
   go_wp2_with fail
   refine(HC.out _ _ _ (hE.q hQ1) H1.out (zU HV.out hQ1)).mono ?_
   rintro e w2⟨rfl,hq2⟩
   have hs2:Q w1 w2:=Q.trans bt hq2
   have hQ2:Q w w2:=Q.trans hQ1 hs2
   go_wp2
   go_ret2
   exact⟨rfl,bt⟩
end
section
open Go.RowKit Kp
open Go.Lib (decDigits)
theorem zq3(q:Rat)(h:Bd 20 q)(w:World)(hE:Env w) :
  Calls Tryz.prog 291 #[.string ⟨(za q).toArray⟩] w fun e w'=>e=.returned (.bool false)∧Q w w':=by
 have HP:=LH (fun w hw=>za9 q (h.zak (by decide)) w hw)
 obtain⟨l1,l2⟩:=zk6 h
 clear h
 generalize za q=S at *
 generalize Lib.itoa (q.den:Int)=D at *
 have HT:=LH (fun w=>zS (Lib.itoa q.num) w)
 generalize zq (Lib.itoa q.num)=U at *
 generalize Lib.itoa q.num=N at *
 have hm1:decide ((20:Int)<(U.length:Int))=false:=by rw[decide_eq_false_iff_not];omega
 have hm2:decide ((20:Int)<(D.length:Int))=false:=by rw[decide_eq_false_iff_not];omega
 go_enter Tryz.func291,Tryz.ntmps291
 have hQ0:=Q.refl w
 go_wp2_with fail
 refine(HP.out _ (hE.ofQ bt)).mono ?_
 rintro e w1⟨rfl,hq1⟩
 have hs1:Q w w1:=Q.trans bt hq1
 have hQ1:Q w w1:=Q.trans hQ0 hs1
 go_wp2_with fail
 refine(HT.out _).mono ?_
 rintro e w2⟨rfl,rfl⟩
 go_wp2
 go_ret
 exact⟨rfl,hQ1⟩
theorem zov(x:Rat)(l:Str)(h:Bd 20 x)(w:World)(hE:Env w) :
  Calls Tryz.prog 290 #[.agg #[.string ⟨(za x).toArray⟩,.string ⟨l.toArray⟩]] w fun e w'=>e=.returned (.bool false)∧Q w w':=by
 have HL:=LH (fun w hw=>zq3 x h w hw)
 clear h
 generalize za x=X at *
 go_enter Tryz.func290,Tryz.ntmps290
 have hQ0:=Q.refl w
 go_wp2_with fail
 refine(HL.out _ (hE.ofQ bt)).mono ?_
 rintro e w1⟨rfl,hq1⟩
 have hs1:Q w w1:=Q.trans bt hq1
 have hQ1:Q w w1:=Q.trans hQ0 hs1
 go_wp2
 go_ret
 exact⟨rfl,bt⟩
theorem zmL(x:Rat)(l:Nat)(h:Bd 20 x)(B:Nat)(v:Value)(w:World)(hE:Env w)(hv:zaJ w B v x l) :
  Calls Tryz.prog 150 #[v,.func (.func 290) #[] #[]] w fun e w'=>e=.returned (.int .i64 (-1))∧Q w w':=by
 have HC:=LH (fun w hw=>zov x (Lib.itoa (l:Int)) h w hw)
 have HV:=LH hv
 obtain⟨g1,c1,rfl,-,-⟩:=World.ownsRow.form hv (by omega)
 clear hv h
 go_enter Tryz.func150,Tryz.ntmps150
 go_wp2
 go_loopw [8] (fun i wr=>(i=.int .i64 0∨i=.int .i64 1)∧Q w wr) (fun i _=>1 - (intOf i).toNat)
 case atStart=>exact⟨.inl rfl,Below.refl _ _⟩
 case round =>
  obtain⟨rfl | rfl,hQ⟩:=hrel
  ·have hr:=zf HV.out hQ
   have c0:=hr.cellAt 0 (by omega)
   have c1:=hr.cellAt 1 (by omega)
   simp only[zs4,zs5]at c0 c1
   go_wp2_with fail
   refine(HC.out _ (hE.ofQ bt)).mono ?_
   rintro e w2⟨rfl,hq2⟩
   have hQ2:Q w w2:=Q.trans hQ hq2
   go_wp2
   go_roundw
   case rel=>exact⟨.inr rfl,hQ2⟩
   case measure=>simp[intOf]
  ·go_wp2
   go_ret
   exact⟨rfl,hQ⟩
theorem zjw(x:Rat)(l:Nat)(h:Bd 20 x)(B:Nat)(v:Value)(w:World)(hE:Env w)(hv:zaJ w B v x l) :
  Calls Tryz.prog 92 #[v,.func (.func 290) #[] #[]] w fun e w'=>e=.returned (.bool false)∧Q w w':=by
 have HI:=LH (zmL x l h B v w hE hv)
 obtain⟨g1,c1,rfl,-,-⟩:=World.ownsRow.form hv (by omega)
 clear hv h
 go_enter Tryz.func92,Tryz.ntmps92
 go_wp2_with fail
 refine HI.out.mono ?_
 rintro e w1⟨rfl,hq1⟩
 go_wp2
 go_ret
 exact⟨rfl,hq1⟩
theorem zk0(x:Rat)(l:Nat)(hp:PTerm x l)(B:Nat)(v:Value)(w:World)(hE:Env w)(hv:zaJ w B v x l) :
  Calls Tryz.prog 271 #[v] w fun e w'=>e=.returned (.int .i64 0)∧Q w w':=by
 have HC:=LH (fun w hw hv=>zaV x l hp.t B v w hw hv)
 have HF:=LH (fun w hw hv=>zjw x l hp.bx B v w hw hv)
 have HV:=LH hv
 obtain⟨g1,c1,rfl,-,-⟩:=World.ownsRow.form hv (by omega)
 clear hv hp
 go_enter Tryz.func271,Tryz.ntmps271
 have hQ0:=Q.refl w
 go_wp2_with fail
 refine(HC.out _ hE HV.out).mono ?_
 rintro e w1⟨rfl,hq1⟩
 have hs1:Q w w1:=Q.trans bt hq1
 have hQ1:Q w w1:=Q.trans hQ0 hs1
 go_wp2_with fail
 refine(HF.out _ (hE.q hQ1) (zU HV.out hQ1)).mono ?_
 rintro e w2⟨rfl,hq2⟩
 have hs2:Q w1 w2:=Q.trans bt hq2
 have hQ2:Q w w2:=Q.trans hQ1 hs2
 go_wp2
 go_ret
 exact⟨rfl,bt⟩
theorem zd1:(1 / 1000:Rat).num=1:=by kernel_rfl
theorem zgB:(1 / 1000:Rat).den=1000:=by kernel_rfl
theorem zhB:(0:Rat)≤1 / 1000:=Rat.num_nonneg.1 (by rw[zd1];decide)
theorem znV:za (1 / 1000)=[49,47,49,48,48,48]:=by
 unfold za
 rw[zd1,zgB]
 simp[Lib.itoa,Lib.decDigits]
def zoF(x:Rat)(l:Nat):Nat:=zez (x*x*(l:Rat)) (1 / 1000)
def flo(x:Rat)(l:Nat):Nat:=zoF x l / 1000
theorem zpy(x:Rat)(l:Nat):zoF x l=zl (((x*x*(l:Rat)).num.toNat*(1000*1000)) / ((x*x*(l:Rat)).den*(1*1))):=by
 unfold zoF zez
 rw[zd1,zgB];rfl
theorem zl6{x:Rat}{l:Nat}:(x*x*(l:Rat)).num.toNat*(x.den*x.den)=sqN x l*(x*x*(l:Rat)).den:=by
 have h1:=zm6 x l
 have h2:=zbI (x*x*(l:Rat))
 have hp:0≤x*x*(l:Rat):=Rat.mul_nonneg (sq_nonneg x) (by exact_mod_cast Nat.zero_le l)
 have hn:0≤(x*x*(l:Rat)).num:=Rat.num_nonneg.2 hp
 have h3:(((x*x*(l:Rat)).num.toNat:Nat):Rat)=((x*x*(l:Rat)).num:Rat):=by
  rw[← Rat.intCast_natCast];congr 1;omega
 generalize x*x*(l:Rat)=q at *
 have h4:((q.num.toNat:Nat):Rat)*((x.den:Rat)*(x.den:Rat))=((sqN x l:Nat):Rat)*(q.den:Rat):=by
  rw[h3,← h2,h1];grind
 rw[← Rat.natCast_mul,← Rat.natCast_mul,← Rat.natCast_mul]at h4
 exact_mod_cast h4
theorem znm(x:Rat)(l:Nat):FloorIs (flo x l) (sqN x l) (x.den*x.den):=by
 unfold flo
 rw[zpy]
 exact zqZ (x*x*(l:Rat)).den_pos (Nat.mul_pos x.den_pos x.den_pos) zl6
theorem zmI{x:Rat}{l:Nat}(h:sqN x l<10 ^ 8*(x.den*x.den)):zoF x l<10 ^ 7:=by
 rw[zpy]
 simp only[Nat.mul_one]
 have hc:=zl6 (x:=x) (l:=l)
 have hD:=(x*x*(l:Rat)).den_pos
 generalize (x*x*(l:Rat)).num.toNat=N at *
 generalize (x*x*(l:Rat)).den=D at *
 have hd:0<x.den*x.den:=Nat.mul_pos x.den_pos x.den_pos
 generalize x.den*x.den=dd at *
 have h1:N*dd<10 ^ 8*D*dd:=by
  rw[hc]
  have:=Nat.mul_lt_mul_of_pos_right h hD
  have e:10 ^ 8*dd*D=10 ^ 8*D*dd:=by ac_rfl
  rw[e]at this;exact this
 have h2:N<10 ^ 8*D:=Nat.lt_of_mul_lt_mul_right h1
 refine zgH ?_
 rw[Nat.div_lt_iff_lt_mul hD]
 have:N*(1000*1000)<10 ^ 8*D*(1000*1000):=Nat.mul_lt_mul_of_pos_right h2 (by decide)
 have e:10 ^ 7*10 ^ 7*D=10 ^ 8*D*(1000*1000):=by
  rw[show (10:Nat) ^ 7*10 ^ 7=10 ^ 8*(1000*1000) by decide];ac_rfl
 omega
theorem zlG(K:Nat):(K:Rat)*(1 / 1000)=Rat.divInt (K:Int) ((1000:Nat):Int):=by
 rw[Rat.divInt_eq_div,Rat.intCast_natCast,Rat.intCast_natCast]
 have:((1000:Nat):Rat)=1000:=rfl
 rw[this];grind
theorem zpx(K:Nat):((K:Rat)*(1 / 1000)).num.toNat / ((K:Rat)*(1 / 1000)).den=K / 1000:=by
 have h2:=zbI ((K:Rat)*(1 / 1000))
 have hp:0≤(K:Rat)*(1 / 1000):=Rat.mul_nonneg (by exact_mod_cast Nat.zero_le K) zhB
 have hn:=Rat.num_nonneg.2 hp
 have h3:((((K:Rat)*(1 / 1000)).num.toNat:Nat):Rat)=(((K:Rat)*(1 / 1000)).num:Rat):=by
  rw[← Rat.intCast_natCast];congr 1;omega
 have hd:=((K:Rat)*(1 / 1000)).den_pos
 generalize hq:(K:Rat)*(1 / 1000)=q at *
 refine zsF (by decide) hd ?_
 have h4:((q.num.toNat:Nat):Rat)*((1000:Nat):Rat)=(K:Rat)*(q.den:Rat):=by
  rw[h3,← h2,← hq]
  have:((1000:Nat):Rat)=1000:=rfl
  rw[this];grind
 rw[← Rat.natCast_mul,← Rat.natCast_mul]at h4
 exact_mod_cast h4
theorem zq1(x:Rat)(l:Nat)(hp:PTerm x l)(hV:sqN x l<10 ^ 8*(x.den*x.den))(w:World)(hE:Env w) :
  Calls Tryz.prog 301 #[.agg #[.string ⟨(za x).toArray⟩,.string ⟨(Lib.itoa (l:Int)).toArray⟩],.string ⟨(za (1 / 1000)).toArray⟩] w fun e w'=>e=.returned (.tuple #[.string ⟨(za ((zoF x l:Rat)*(1 / 1000))).toArray⟩,.int .i64 0])∧Q w w':=by
 have blq:Bd 16 (l:Rat):=⟨by rw[Rat.num_natCast,Int.natAbs_natCast];exact hp.bl,by rw[Rat.den_natCast];exact by decide⟩
 have HM1:=LH (fun w hw=>zM x x hp.bx hp.bx (by decide) w hw)
 have hm2:=fun w hw=>zM (x*x) (l:Rat) (hp.bx.mul hp.bx) blq (by decide) w hw
 rw[zT]at hm2
 have HM2:=LH hm2
 have hk:=zmI hV
 have bq:Bd 56 (x*x*(l:Rat)):=(hp.bx.mul hp.bx).mul blq
 have q0:0≤(x*x*(l:Rat)).num:=Rat.num_nonneg.2 (Rat.mul_nonneg (sq_nonneg x) (by exact_mod_cast Nat.zero_le l))
 have HF:=LH (fun w hw=>znZ (x*x*(l:Rat)) (1 / 1000) (bq.mono (by decide)) (show Bd 10 (1 / 1000)from⟨by rw[zd1];decide,by rw[zgB];decide⟩) q0 (by rw[zd1];decide)
  ⟨by rw[Rat.num_natCast,Int.natAbs_natCast];exact Nat.lt_of_lt_of_le hk (by decide),by rw[Rat.den_natCast];exact by decide⟩ w hw)
 have eK:zez (x*x*(l:Rat)) (1 / 1000)=zoF x l:=rfl
 rw[eK]at HF
 have hne:za x≠[]:=fun e=>by
  have h1:=zbf x
  have:=hp.pos
  unfold za at e
  split at e
  ·exact zpD _ e
  ·simp at e
 have hlen:0<(za x).length:=List.length_pos_iff.2 hne
 have hat:(((at0 (za x) 0).toNat:Int) == 45)=false:=by
  refine zsW (fun e=>?_)
  have h1:=zcF hne
  rw[e]at h1
  have:=(zbf x).1 h1
  have:=hp.pos
  omega
 have hat':=zaw hat
 clear hm2 hp hV blq hk bq q0 eK hne
 generalize za ((zoF x l:Rat)*(1 / 1000))=R at *
 generalize za (x*x*(l:Rat))=P2 at *
 generalize za (x*x)=P1 at *
 generalize za (1 / 1000)=U at *
 generalize za x=X at *
 generalize Lib.itoa (l:Int)=L at *
 go_enter Tryz.func301,Tryz.ntmps301
 have hQ0:=Q.refl w
 go_wp2_with fail
 refine(HM1.out _ (hE.ofQ bt)).mono ?_
 rintro e w1⟨rfl,hq1⟩
 have hs1:Q w w1:=Q.trans bt hq1
 have hQ1:Q w w1:=Q.trans hQ0 hs1
 have T:=(Blk.new w [.string ⟨X.toArray⟩,.string ⟨L.toArray⟩] 84).keep hq1 (by simp)
 replace t0:=T.cell 0
 replace t1:=T.cell 1
 simp only[zs4,zs5]at t0 t1
 replace lT:=T.lt
 go_wp2_with fail
 refine(HM2.out _ (hE.ofQ bt)).mono ?_
 rintro e w2⟨rfl,hq2⟩
 have hs2:Q w1 w2:=Q.trans bt hq2
 have hQ2:Q w w2:=Q.trans hQ1 hs2
 replace T:=T.keep hs2 T.lt
 replace t0:=T.cell 0
 replace t1:=T.cell 1
 simp only[zs4,zs5]at t0 t1
 replace lT:=T.lt
 go_wp2_with fail
 refine(HF.out _ (hE.ofQ bt)).mono ?_
 rintro e w3⟨rfl,hq3⟩
 have hs3:Q w2 w3:=Q.trans bt hq3
 have hQ3:Q w w3:=Q.trans hQ2 hs3
 replace T:=T.keep hs3 T.lt
 replace t0:=T.cell 0
 replace t1:=T.cell 1
 simp only[zs4,zs5]at t0 t1
 replace lT:=T.lt
 go_wp2
 go_ret2
 exact⟨rfl,bt⟩
theorem zpX(K:Nat)(hK:K<10 ^ 7)(w:World)(hE:Env w) :
  Calls Tryz.prog 302 #[.string ⟨(za ((K:Rat)*(1 / 1000))).toArray⟩,.string ⟨#[49]⟩] w fun e w'=>e=.returned (.tuple #[.string ⟨(Lib.itoa ((K / 1000:Nat):Int)).toArray⟩,.int .i64 0])∧Q w w':=by
 have b8:Bd 8 ((K:Rat)*(1 / 1000)):=by
  rw[zlG]
  exact zbQ (by decide) (by rw[Int.natAbs_natCast];exact Nat.lt_of_lt_of_le hK (by decide)) (by decide)
 have s8:zO ((K:Rat)*(1 / 1000)):=b8
 have n0:0≤((K:Rat)*(1 / 1000)).num:=Rat.num_nonneg.2 (Rat.mul_nonneg (by exact_mod_cast Nat.zero_le K) zhB)
 have hd:=fun w hw=>zcf ((K:Rat)*(1 / 1000)) 1 b8 zi5 (by decide) (by decide) w hw
 rw[zaM,show (K:Rat)*(1 / 1000) / 1=(K:Rat)*(1 / 1000) by grind]at hd
 have HD:=LH hd
 have hf:=fun w hw=>zfr _ s8 n0 w hw
 rw[zpx]at hf
 have HF:=LH hf
 have hm:=fun w hw=>zM ((K / 1000:Nat):Rat) 1 (show Bd 8 ((K / 1000:Nat):Rat)from⟨by rw[Rat.num_natCast,Int.natAbs_natCast];exact Nat.lt_of_le_of_lt (Nat.div_le_self _ _) (Nat.lt_of_lt_of_le hK (by decide)),by rw[Rat.den_natCast];exact by decide⟩) zi5 (by decide) w hw
 rw[Rat.mul_one,zT,zaM]at hm
 have HM:=LH hm
 clear b8 s8 n0 hd hf hm hK
 generalize za ((K:Rat)*(1 / 1000))=X at *
 generalize Lib.itoa ((K / 1000:Nat):Int)=F at *
 go_enter Tryz.func302,Tryz.ntmps302
 have hQ0:=Q.refl w
 go_wp2_with fail
 refine(HD.out _ (hE.ofQ bt)).mono ?_
 rintro e w1⟨rfl,hq1⟩
 have hs1:Q w w1:=Q.trans bt hq1
 have hQ1:Q w w1:=Q.trans hQ0 hs1
 go_wp2_with fail
 refine(HF.out _ (hE.ofQ bt)).mono ?_
 rintro e w2⟨rfl,hq2⟩
 have hs2:Q w1 w2:=Q.trans bt hq2
 have hQ2:Q w w2:=Q.trans hQ1 hs2
 go_wp2_with fail
 refine(HM.out _ (hE.ofQ bt)).mono ?_
 rintro e w3⟨rfl,hq3⟩
 have hs3:Q w2 w3:=Q.trans bt hq3
 have hQ3:Q w w3:=Q.trans hQ2 hs3
 go_wp2
 go_ret2
 exact⟨rfl,bt⟩
theorem zq2(x:Rat)(l:Nat)(hp:PTerm x l)(hV:sqN x l<10 ^ 8*(x.den*x.den))(B:Nat)(v:Value)(w:World)(hE:Env w)(hv:zaJ w B v x l) :
  Calls Tryz.prog 292 #[v,.string ⟨#[49]⟩] w fun e w'=>e=.returned (.tuple #[.string ⟨(Lib.itoa ((flo x l:Int) - 1)).toArray⟩,.int .i64 0])∧Q w w':=by
 have hm:=fun w hw=>zM 1 (1 / 1000) zi5 (show Bd 10 (1 / 1000)from⟨by rw[zd1];decide,by rw[zgB];decide⟩) (by decide) w hw
 rw[zaM,Rat.one_mul]at hm
 have ht:=fun w hw=>zq1 x l hp hV w hw
 have hk:=zmI hV
 have b8:Bd 8 ((zoF x l:Rat)*(1 / 1000)):=by
  rw[zlG]
  exact zbQ (by decide) (by rw[Int.natAbs_natCast];exact Nat.lt_of_lt_of_le hk (by decide)) (by decide)
 have ha:=fun w hw=>zaA 0 ((zoF x l:Rat)*(1 / 1000)) (show Bd 1 0 from⟨by decide,by decide⟩) b8 (by decide) w hw
 rw[zI,Rat.zero_add]at ha
 have hf:=fun w hw=>zpX (zoF x l) hk w hw
 have eF:zoF x l / 1000=flo x l:=rfl
 rw[eF]at hf
 have bF:Bd 8 ((flo x l:Nat):Rat):=⟨by rw[Rat.num_natCast,Int.natAbs_natCast];exact Nat.lt_of_le_of_lt (Nat.div_le_self _ _) (Nat.lt_of_lt_of_le hk (by decide)),by rw[Rat.den_natCast];exact by decide⟩
 have hs:=fun w hw=>zbH ((flo x l:Nat):Rat) 1 bF zi5 (by decide) w hw
 have eI:((flo x l:Nat):Rat) - 1=(((flo x l:Int) - 1:Int):Rat):=by rw[Rat.intCast_sub,Rat.intCast_natCast];rfl
 rw[zT,zaM,eI,zc0]at hs
 rw[znV]at hm ht
 have HM:=LH hm
 have HT:=LH ht
 have HA:=LH ha
 have HF:=LH hf
 have HS:=LH hs
 have HV:=LH hv
 obtain⟨g1,c1,rfl,-,-⟩:=World.ownsRow.form hv (by omega)
 clear hm ht ha hf hs hv hp hV hk b8 eF bF eI
 unfold zaJ at HV
 generalize Lib.itoa ((flo x l:Int) - 1)=R at *
 generalize Lib.itoa (flo x l:Int)=F at *
 generalize za ((zoF x l:Rat)*(1 / 1000))=K at *
 generalize za x=X at *
 generalize Lib.itoa (l:Int)=L at *
 go_enter Tryz.func292,Tryz.ntmps292
 have hQ0:=Q.refl w
 go_wp2_with fail
 refine(HM.out _ (hE.ofQ bt)).mono ?_
 rintro e w1⟨rfl,hq1⟩
 have hs1:Q w w1:=Q.trans bt hq1
 have hQ1:Q w w1:=Q.trans hQ0 hs1
 go_wp2
 go_loopw [8,24] (fun s i wr=>Q w wr∧((i=.int .i64 0∧s=.string ⟨#[48]⟩)∨(i=.int .i64 1∧s=.string ⟨K.toArray⟩))) (fun _ i _=>1 - (intOf i).toNat)
 case atStart=>exact⟨hQ1,.inl ⟨rfl,rfl⟩⟩
 case round =>
  obtain⟨hQ,⟨rfl,rfl⟩|⟨rfl,rfl⟩⟩:=hrel
  ·have hr:=zf HV.out hQ
   have c0:=hr.cellAt 0 (by omega)
   have c1:=hr.cellAt 1 (by omega)
   simp only[zs4,zs5]at c0 c1
   go_wp2_with fail
   refine(HT.out _ (hE.ofQ bt)).mono ?_
   rintro e w2⟨rfl,hq2⟩
   have hQ2:Q w w2:=Q.trans bt hq2
   clear c0 c1
   go_wp2_with fail
   refine(HA.out _ (hE.ofQ bt)).mono ?_
   rintro e w3⟨rfl,hq3⟩
   have hQ3:Q w w3:=Q.trans hQ2 hq3
   go_wp2
   go_roundw
   case rel=>exact⟨hQ3,.inr ⟨rfl,rfl⟩⟩
   case measure=>simp[intOf]
  ·go_wp2_with fail
   refine(HF.out _ (hE.ofQ bt)).mono ?_
   rintro e w2⟨rfl,hq2⟩
   have hQ2:Q w w2:=Q.trans hQ hq2
   go_wp2_with fail
   refine(HS.out _ (hE.ofQ bt)).mono ?_
   rintro e w3⟨rfl,hq3⟩
   have hQ3:Q w w3:=Q.trans hQ2 hq3
   go_wp2
   go_ret2
   exact⟨rfl,hQ3⟩
end
end Go.Proofs.YtbpghkdadajomaaGreatDoor
