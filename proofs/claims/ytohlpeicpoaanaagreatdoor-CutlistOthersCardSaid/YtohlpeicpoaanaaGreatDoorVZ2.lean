/-
  VE VF VG VH, one behind the other.
-/
import Derived.Test.YtohlpeicpoaanaaGreatDoorVZ1
namespace Go.Proofs.YtohlpeicpoaanaaGreatDoor
section
open Go.RowKit Kp
open Go.Lib (decDigits)
theorem ret_c2 {fn:Func} {m:Tmp} {T:TypeId} (hf:fn.results=#[.cell m T]) (hT:T=270∨T=188) (tmps:Array Value) (W:World) (b:Nat) (x y:Value) (hp:tmps.getD m undef=.pointer (some ⟨b,0,none⟩))
  (c0:W.cell? ⟨b,0,none⟩=some x) (c1:W.cell? ⟨b,1,none⟩=some y) :
  (results fn tmps).run Tryz.prog W=.ok (.agg #[x,y]) W:=by
 simp only [Array.getD_eq_getD_getElem?] at hp
 rcases hT with rfl | rfl <;> simp [results,hf,go_sem,hp,c0,c1]
theorem ret_c2t {fn:Func} {m k:Tmp} {T:TypeId} (hf:fn.results=#[.cell m T,.tmp k]) (hT:T=270∨T=188) (tmps:Array Value) (W:World) (b:Nat) (x y u:Value) (hp:tmps.getD m undef=.pointer (some ⟨b,0,none⟩)) (hk:tmps.getD k undef=u)
  (c0:W.cell? ⟨b,0,none⟩=some x) (c1:W.cell? ⟨b,1,none⟩=some y) :
  (results fn tmps).run Tryz.prog W=.ok (.tuple #[.agg #[x,y],u]) W:=by
 simp only [Array.getD_eq_getD_getElem?] at hp hk
 rcases hT with rfl | rfl <;> simp [results,hf,go_sem,hp,hk,c0,c1]
theorem Blk.set2 {w:World} {b:Nat} {x y x' y':Value} {t:TypeId} (h:Blk w b [x,y] t):Blk ((w.setCell ⟨b,0,none⟩ x').setCell ⟨b,1,none⟩ y') b [x',y'] t :=
 (h.set 0 x').set 1 y'
set_option maxRecDepth 100000 in
set_option maxHeartbeats 1000000 in
theorem pair_times (A B C D U V:Str) (HU:Hid (∀ w,Env w→Calls Tryz.prog 196 #[.string ⟨A.toArray⟩,.string ⟨C.toArray⟩] w fun e w'=>e=.returned (.string ⟨U.toArray⟩)∧Q w w'))
  (HV:Hid (∀ w,Env w→Calls Tryz.prog 196 #[.string ⟨B.toArray⟩,.string ⟨D.toArray⟩] w fun e w'=>e=.returned (.string ⟨V.toArray⟩)∧Q w w')) (w:World) (hE:Env w) :
  Calls Tryz.prog 298 #[.agg #[.string ⟨A.toArray⟩,.string ⟨B.toArray⟩],.agg #[.string ⟨C.toArray⟩,.string ⟨D.toArray⟩]] w fun e w'=>e=.returned (.agg #[.string ⟨U.toArray⟩,.string ⟨V.toArray⟩])∧Q w w':=by
 go_enter Tryz.func298,Tryz.ntmps298
 go_wp2_with fail
 obtain ⟨W0,hW0⟩:∃ W0,((w.alloc (.cells #[.string ⟨A.toArray⟩,.string ⟨B.toArray⟩] 270)).alloc (.cells #[.string ⟨C.toArray⟩,.string ⟨D.toArray⟩] 270)).alloc (.cells #[.string ⟨#[]⟩,.string ⟨#[]⟩] 270)=W0:=⟨_,rfl⟩
 have hq0:Q w W0:=by rw [← hW0]; exact bt
 have P:Blk W0 w.heap.size [.string ⟨A.toArray⟩,.string ⟨B.toArray⟩] 270:=by rw [← hW0]; exact ((Blk.new w _ _).alloc _).alloc _
 have R:Blk W0 (w.heap.size+1) [.string ⟨C.toArray⟩,.string ⟨D.toArray⟩] 270:=by rw [← hW0]; exact (Blk.new1 w _ _ _).alloc _
 have S:Blk W0 (w.heap.size+2) [.string ⟨#[]⟩,.string ⟨#[]⟩] 270:=by rw [← hW0]; exact Blk.new2 w _ _ _ _
 rw [hW0]
 have d0:=P.drew.cell 0
 have d1:=P.drew.cell 1
 have d2:=R.drew.cell 0
 have d3:=R.drew.cell 1
 simp only [zs4,zs5] at d0 d1 d2 d3
 clear hW0
 have hqd:Q W0 W0.drew:=Below.drew (Q.refl W0)
 refine wp_steadily 11 (by kernel_rfl) (by kernel_rfl) rfl ?_
 refine svp 0 ?_
 refine svq 1 rfl (by intro w' hq; have hc0:=qcell hq d0; go_simp; try with_reducible rfl) ?_
 refine svp 2 ?_
 refine svq 3 rfl (by intro w' hq; have hc0:=qcell hq d2; go_simp; try with_reducible rfl) ?_
 refine steadily_call (i:=4) (v:=_) rfl rfl (by kernel_rfl) (by kernel_rfl) (fun _ _ _ h=>h) (by rfl) ?_ (fun w' hq=>HU.out w' (hE.q (Q.trans hq0 (Q.trans hqd hq)))) ?_
 ·(intro w' hq; go_simp; try with_reducible rfl)
 simp only [Act.put,zs1,zs2,zs3]
 refine svp 5 ?_
 refine svq 6 rfl (by intro w' hq; have hc0:=qcell hq d1; go_simp; try with_reducible rfl) ?_
 refine svp 7 ?_
 refine svq 8 rfl (by intro w' hq; have hc0:=qcell hq d3; go_simp; try with_reducible rfl) ?_
 refine steadily_call (i:=9) (v:=_) rfl rfl (by kernel_rfl) (by kernel_rfl) (fun _ _ _ h=>h) (by rfl) ?_ (fun w' hq=>HV.out w' (hE.q (Q.trans hq0 (Q.trans hqd hq)))) ?_
 ·(intro w' hq; go_simp; try with_reducible rfl)
 simp only [Act.put,zs1,zs2,zs3]
 refine svp 10 ?_
 refine steadily_done (by kernel_rfl) (fun w3 hq3=>?_)
 simp only [List.drop_succ_cons,List.drop_zero]
 have hqq:Q W0 w3:=Q.trans hqd hq3
 have hQ3:Q w w3:=Q.trans hq0 hqq
 have S':=S.keep hqq S.lt
 have lS:=S'.lt
 have x0:=S'.cell 0
 have x1:=S'.cell 1
 have f0:=S'.frozen 0
 have f1:=S'.frozen 1
 simp only [zs4,zs5] at x0 x1
 clear P R S d0 d1 d2 d3
 go_wp2
 refine bodyPost_ret (v:=.agg #[.string ⟨U.toArray⟩,.string ⟨V.toArray⟩]) (ret_c2 Tryz.results298 (.inl rfl) _ _ (w.heap.size+2) _ _ rfl (S'.set2.cell 0) (S'.set2.cell 1)) rfl ⟨rfl,bt⟩
set_option maxRecDepth 100000 in
set_option maxHeartbeats 1000000 in
theorem pair_over (A B C D U V:Str) (HU:Hid (∀ w,Env w→Calls Tryz.prog 196 #[.string ⟨A.toArray⟩,.string ⟨D.toArray⟩] w fun e w'=>e=.returned (.string ⟨U.toArray⟩)∧Q w w'))
  (HV:Hid (∀ w,Env w→Calls Tryz.prog 196 #[.string ⟨B.toArray⟩,.string ⟨C.toArray⟩] w fun e w'=>e=.returned (.string ⟨V.toArray⟩)∧Q w w')) (w:World) (hE:Env w) :
  Calls Tryz.prog 297 #[.agg #[.string ⟨A.toArray⟩,.string ⟨B.toArray⟩],.agg #[.string ⟨C.toArray⟩,.string ⟨D.toArray⟩]] w fun e w'=>e=.returned (.agg #[.string ⟨U.toArray⟩,.string ⟨V.toArray⟩])∧Q w w':=by
 go_enter Tryz.func297,Tryz.ntmps297
 go_wp2_with fail
 obtain ⟨W0,hW0⟩:∃ W0,((w.alloc (.cells #[.string ⟨A.toArray⟩,.string ⟨B.toArray⟩] 270)).alloc (.cells #[.string ⟨C.toArray⟩,.string ⟨D.toArray⟩] 270)).alloc (.cells #[.string ⟨#[]⟩,.string ⟨#[]⟩] 270)=W0:=⟨_,rfl⟩
 have hq0:Q w W0:=by rw [← hW0]; exact bt
 have P:Blk W0 w.heap.size [.string ⟨A.toArray⟩,.string ⟨B.toArray⟩] 270:=by rw [← hW0]; exact ((Blk.new w _ _).alloc _).alloc _
 have R:Blk W0 (w.heap.size+1) [.string ⟨C.toArray⟩,.string ⟨D.toArray⟩] 270:=by rw [← hW0]; exact (Blk.new1 w _ _ _).alloc _
 have S:Blk W0 (w.heap.size+2) [.string ⟨#[]⟩,.string ⟨#[]⟩] 270:=by rw [← hW0]; exact Blk.new2 w _ _ _ _
 rw [hW0]
 have d0:=P.drew.cell 0
 have d1:=P.drew.cell 1
 have d2:=R.drew.cell 0
 have d3:=R.drew.cell 1
 simp only [zs4,zs5] at d0 d1 d2 d3
 clear hW0
 have hqd:Q W0 W0.drew:=Below.drew (Q.refl W0)
 refine wp_steadily 11 (by kernel_rfl) (by kernel_rfl) rfl ?_
 refine svp 0 ?_
 refine svq 1 rfl (by intro w' hq; have hc0:=qcell hq d0; go_simp; try with_reducible rfl) ?_
 refine svp 2 ?_
 refine svq 3 rfl (by intro w' hq; have hc0:=qcell hq d3; go_simp; try with_reducible rfl) ?_
 refine steadily_call (i:=4) (v:=_) rfl rfl (by kernel_rfl) (by kernel_rfl) (fun _ _ _ h=>h) (by rfl) ?_ (fun w' hq=>HU.out w' (hE.q (Q.trans hq0 (Q.trans hqd hq)))) ?_
 ·(intro w' hq; go_simp; try with_reducible rfl)
 simp only [Act.put,zs1,zs2,zs3]
 refine svp 5 ?_
 refine svq 6 rfl (by intro w' hq; have hc0:=qcell hq d1; go_simp; try with_reducible rfl) ?_
 refine svp 7 ?_
 refine svq 8 rfl (by intro w' hq; have hc0:=qcell hq d2; go_simp; try with_reducible rfl) ?_
 refine steadily_call (i:=9) (v:=_) rfl rfl (by kernel_rfl) (by kernel_rfl) (fun _ _ _ h=>h) (by rfl) ?_ (fun w' hq=>HV.out w' (hE.q (Q.trans hq0 (Q.trans hqd hq)))) ?_
 ·(intro w' hq; go_simp; try with_reducible rfl)
 simp only [Act.put,zs1,zs2,zs3]
 refine svp 10 ?_
 refine steadily_done (by kernel_rfl) (fun w3 hq3=>?_)
 simp only [List.drop_succ_cons,List.drop_zero]
 have hqq:Q W0 w3:=Q.trans hqd hq3
 have hQ3:Q w w3:=Q.trans hq0 hqq
 have S':=S.keep hqq S.lt
 have lS:=S'.lt
 have x0:=S'.cell 0
 have x1:=S'.cell 1
 have f0:=S'.frozen 0
 have f1:=S'.frozen 1
 simp only [zs4,zs5] at x0 x1
 clear P R S d0 d1 d2 d3
 go_wp2
 refine bodyPost_ret (v:=.agg #[.string ⟨U.toArray⟩,.string ⟨V.toArray⟩]) (ret_c2 Tryz.results297 (.inl rfl) _ _ (w.heap.size+2) _ _ rfl (S'.set2.cell 0) (S'.set2.cell 1)) rfl ⟨rfl,bt⟩
set_option maxHeartbeats 1000000 in
theorem pair_floor (x y:Int) (hx:lim x=false) (hy:lim y=false) (hy0:y≠0) (w:World) (hE:Env w) :
  Calls Tryz.prog 299 #[.agg #[.string ⟨(Lib.itoa x).toArray⟩,.string ⟨(Lib.itoa y).toArray⟩]] w fun e w'=>e=.returned (.string ⟨(Lib.itoa (x.fdiv y)).toArray⟩)∧Q w w':=by
 have HQ:=LH (fun w hw=>root_quotient x y hx hy hy0 w hw)
 generalize Lib.itoa (x.fdiv y)=K at *
 generalize Lib.itoa (x.fmod y)=M at *
 generalize Lib.itoa x=X at *
 generalize Lib.itoa y=Y at *
 go_enter Tryz.func299,Tryz.ntmps299
 have hQ0:=Q.refl w
 go_wp2_with fail
 refine (HQ.out _ (hE.ofQ bt)).mono ?_
 rintro e w1 ⟨rfl,hq1⟩
 have hs1:Q w w1:=Q.trans bt hq1
 have hQ1:Q w w1:=Q.trans hQ0 hs1
 go_wp2
 go_ret
 exact ⟨rfl,bt⟩
set_option maxHeartbeats 1000000 in
theorem root_sign_pos (q:Rat) (h:0<q.num) (w:World) :
  Calls Tryz.prog 296 #[.string ⟨(rstr q).toArray⟩] w fun e w'=>e=.returned (.int .i64 1)∧w=w':=by
 have hz:(rstr q == [48])=false:=by
  rw [beq_eq_false_iff_ne,← rstr_zero]; exact fun e=>by have:=rstr_inj e; subst this; simp at h
 have hmin:decide ((rstr q).head?=some 45)=false:=by rw [decide_eq_false_iff_not,rstr_head]; omega
 have HN:=LH (fun w=>root_negative (rstr q) w)
 rw [hmin] at HN
 clear hmin
 generalize rstr q=S at *
 go_enter Tryz.func296,Tryz.ntmps296
 go_wp2_with fail
 refine (HN.out _).mono ?_
 rintro e w1 ⟨rfl,rfl⟩
 go_wp2
 go_ret
 exact ⟨rfl,rfl⟩
set_option maxRecDepth 100000 in
set_option maxHeartbeats 1000000 in
theorem root_unitErrors (q u:Rat) (hq:Root90 q) (hu:Root90 u) (q0:0≤q.num) (u0:0<u.num) (w:World) (hE:Env w) :
  Calls Tryz.prog 286 #[.string ⟨(rstr q).toArray⟩,.string ⟨(rstr u).toArray⟩] w fun e w'=>e=.returned (.int .i64 0)∧Q w w':=by
 have HC:Hid (∀ b1 b2 t1 t2 w,Env w→Blk w b1 [.string ⟨(rstr q).toArray⟩,.string ⟨(rstr u).toArray⟩] t1→Blk w b2 [.string ⟨(rstr q).toArray⟩] t2 →
   Calls Tryz.prog 192 #[.slice (some ⟨b1,0,none⟩) 2 2,.slice (some ⟨b2,0,none⟩) 1 1] w fun e w'=>e=.returned (.int .i64 0)∧Q w w') :=
  LH (fun b1 b2 t1 t2 w hw h1 h2=>by
   have h:=root_check [q,u] [q] (by
    intro x hx
    rw [List.mem_cons,List.mem_singleton] at hx
    rcases hx with rfl | rfl
    ·exact hq
    ·exact hu) _ _ w hw (StrSl.two h1) (StrSl.one h2) (by simp) (by simp)
   rw [if_pos (by intro x hx; rw [List.mem_singleton] at hx; subst hx; exact q0)] at h
   exact h)
 have HS:=LH (fun w=>root_sign_pos u u0 w)
 clear hq hu q0 u0
 generalize rstr q=X at *
 generalize rstr u=U at *
 go_enter Tryz.func286,Tryz.ntmps286
 have hQ0:=Q.refl w
 go_wp2_with fail
 refine (HC.out _ _ _ _ _ (hE.ofQ bt) ((Blk.new w [.string ⟨X.toArray⟩,.string ⟨U.toArray⟩] 55).alloc _) (Blk.new1 w _ [.string ⟨X.toArray⟩] 55)).mono ?_
 rintro e w1 ⟨rfl,hq1⟩
 have hs1:Q w w1:=Q.trans bt hq1
 have hQ1:Q w w1:=Q.trans hQ0 hs1
 go_wp2_with fail
 refine (HS.out _).mono ?_
 rintro e w2 ⟨rfl,rfl⟩
 go_wp2
 go_ret
 exact ⟨rfl,bt⟩
def unitsN (q u:Rat):Nat:=isqrt ((q.num.toNat*(u.den*u.den)) / (q.den*(u.num.toNat*u.num.toNat)))
theorem units_lims {q u:Rat} (bq:Bd 70 q) (bu:Bd 10 u) (q0:0≤q.num) (u0:0<u.num) :
  lim (u.num*u.num)=false∧lim ((u.den:Int)*u.den)=false∧lim (q.num*((u.den:Int)*u.den))=false∧lim ((q.den:Int)*(u.num*u.num))=false∧(q.den:Int)*(u.num*u.num)≠0 ∧
  (q.num*((u.den:Int)*u.den)).fdiv ((q.den:Int)*(u.num*u.num))=(((q.num.toNat*(u.den*u.den)) / (q.den*(u.num.toNat*u.num.toNat)):Nat):Int)∧lim ((((q.num.toNat*(u.den*u.den)) / (q.den*(u.num.toNat*u.num.toNat)):Nat):Int))=false∧lim ((unitsN q u:Nat):Int)=false:=by
 have hn:∃ a:Nat,q.num=a:=⟨q.num.toNat,by omega⟩
 have hu:∃ b:Nat,u.num=b:=⟨u.num.toNat,by omega⟩
 obtain ⟨a,ha⟩:=hn
 obtain ⟨b,hb⟩:=hu
 have b0:0<b:=by omega
 have hd:=q.den_pos
 have k1:a<10 ^ 70:=by have:=bq.1; rw [ha,Int.natAbs_natCast] at this; exact this
 have k2:b<10 ^ 10:=by have:=bu.1; rw [hb,Int.natAbs_natCast] at this; exact this
 have k3:=bq.2
 have k4:=bu.2
 unfold unitsN
 rw [ha,hb,Int.toNat_natCast,Int.toNat_natCast]
 generalize q.den=c at *
 generalize u.den=d at *
 have m1:b*b<10 ^ 20:=Nat.lt_of_lt_of_le (Nat.mul_lt_mul'' k2 k2) (by decide)
 have m2:d*d<10 ^ 20:=Nat.lt_of_lt_of_le (Nat.mul_lt_mul'' k4 k4) (by decide)
 have m3:a*(d*d)<10 ^ 90:=Nat.lt_of_lt_of_le (Nat.mul_lt_mul'' k1 m2) (by decide)
 have m4:c*(b*b)<10 ^ 90:=Nat.lt_of_lt_of_le (Nat.mul_lt_mul'' k3 m1) (by decide)
 have hl:∀ n:Nat,n<10 ^ 90→lim (n:Int)=false:=fun n h=>lim_bd (n:=90) (by rw [Int.natAbs_natCast]; exact h) (by decide)
 have p0:0<c*(b*b):=Nat.mul_pos hd (Nat.mul_pos b0 b0)
 have m5:a*(d*d) / (c*(b*b))<10 ^ 90:=Nat.lt_of_le_of_lt (Nat.div_le_self _ _) m3
 rw [← Int.natCast_mul,← Int.natCast_mul,← Int.natCast_mul,← Int.natCast_mul]
 have m6:isqrt (a*(d*d) / (c*(b*b)))<10 ^ 90:=Nat.lt_of_le_of_lt (Nat.le_trans (by
  generalize isqrt (a*(d*d) / (c*(b*b)))=r
  exact Nat.le_mul_self r) (isqrt_sq_le _)) m5
 refine ⟨hl _ (Nat.lt_of_lt_of_le m1 (by decide)),hl _ (Nat.lt_of_lt_of_le m2 (by decide)),hl _ m3,hl _ m4,by omega,?_,hl _ m5,hl _ m6⟩
 exact fdiv_nat _ _
set_option maxRecDepth 100000 in
set_option maxHeartbeats 2000000 in
theorem root_units (q u:Rat) (bq:Bd 70 q) (bu:Bd 10 u) (q0:0≤q.num) (u0:0<u.num) (w:World) (hE:Env w) :
  Calls Tryz.prog 288 #[.string ⟨(rstr q).toArray⟩,.string ⟨(rstr u).toArray⟩,.string ⟨#[49]⟩] w fun e w'=>e=.returned (.string ⟨(Lib.itoa ((unitsN q u:Nat):Int)).toArray⟩)∧Q w w':=by
 obtain ⟨a1,a2,a3,a4,a5,a6,a7,a8⟩:=units_lims bq bu q0 u0
 have lq:=rlim_parts (bq.rlim (by decide))
 have lu:=rlim_parts (bu.rlim (by decide))
 have HU:=LH (fun w hw=>root_of u (bu.rlim (by decide)) w hw)
 have HQ:=LH (fun w hw=>root_of q (bq.rlim (by decide)) w hw)
 have HT:=LH (fun w hw=>pair_times (Lib.itoa u.num) (Lib.itoa (u.den:Int)) (Lib.itoa u.num) (Lib.itoa (u.den:Int)) (Lib.itoa (u.num*u.num)) (Lib.itoa ((u.den:Int)*u.den))
  (LH fun w hw=>root_mul _ _ lu.1 lu.1 a1 w hw) (LH fun w hw=>root_mul _ _ lu.2 lu.2 a2 w hw) w hw)
 have HO:=LH (fun w hw=>pair_over (Lib.itoa q.num) (Lib.itoa (q.den:Int)) (Lib.itoa (u.num*u.num)) (Lib.itoa ((u.den:Int)*u.den)) (Lib.itoa (q.num*((u.den:Int)*u.den))) (Lib.itoa ((q.den:Int)*(u.num*u.num)))
  (LH fun w hw=>root_mul _ _ lq.1 a2 a3 w hw) (LH fun w hw=>root_mul _ _ lq.2 a1 a4 w hw) w hw)
 have hm0:=fun w hw=>root_mul (q.num*((u.den:Int)*u.den)) 1 a3 (lim_of_lt (by decide)) (by rw [Int.mul_one]; exact a3) w hw
 rw [Int.mul_one,itoa_one] at hm0
 have HM:=LH hm0
 have hf0:=fun w hw=>pair_floor (q.num*((u.den:Int)*u.den)) ((q.den:Int)*(u.num*u.num)) a3 a4 a5 w hw
 rw [a6] at hf0
 have HF:=LH hf0
 have HR:=LH (fun w hw=>integer_Root _ a7 w hw)
 have hun:unitsN q u=isqrt ((q.num.toNat*(u.den*u.den)) / (q.den*(u.num.toNat*u.num.toNat))):=rfl
 rw [hun]
 clear bq bu q0 u0 a1 a2 a3 a4 a5 a6 a7 a8 lq lu hm0 hf0 hun
 generalize Lib.itoa ((isqrt ((q.num.toNat*(u.den*u.den)) / (q.den*(u.num.toNat*u.num.toNat))):Nat):Int)=K at *
 generalize Lib.itoa (((q.num.toNat*(u.den*u.den)) / (q.den*(u.num.toNat*u.num.toNat)):Nat):Int)=J at *
 generalize Lib.itoa (q.num*((u.den:Int)*u.den))=PN at *
 generalize Lib.itoa ((q.den:Int)*(u.num*u.num))=PD at *
 generalize Lib.itoa (u.num*u.num)=UN at *
 generalize Lib.itoa ((u.den:Int)*u.den)=UD at *
 generalize Lib.itoa u.num=un at *
 generalize Lib.itoa (u.den:Int)=ud at *
 generalize Lib.itoa q.num=qn at *
 generalize Lib.itoa (q.den:Int)=qd at *
 generalize rstr q=X at *
 generalize rstr u=Y at *
 go_enter Tryz.func288,Tryz.ntmps288
 have hQ0:=Q.refl w
 go_wp2_with fail
 refine (HU.out _ (hE.ofQ bt)).mono ?_
 rintro e w1 ⟨rfl,hq1⟩
 have hs1:Q w w1:=Q.trans bt hq1
 have hQ1:Q w w1:=Q.trans hQ0 hs1
 go_wp2_with fail
 obtain ⟨W0,hW0⟩:∃ W0,w1.alloc (.cells #[.string ⟨un.toArray⟩,.string ⟨ud.toArray⟩] 270)=W0:=⟨_,rfl⟩
 have hq0:Q w W0:=by rw [← hW0]; exact bt
 have P:Blk W0 w1.heap.size [.string ⟨un.toArray⟩,.string ⟨ud.toArray⟩] 270:=by rw [← hW0]; exact Blk.new w1 _ _
 rw [hW0]
 clear hW0
 have d0:=P.drew.cell 0
 have d1:=P.drew.cell 1
 simp only [zs4,zs5] at d0 d1
 have hqd:Q W0 W0.drew:=Below.drew (Q.refl W0)
 refine wp_steadily 7 (by kernel_rfl) (by kernel_rfl) rfl ?_
 refine svp 0 ?_
 refine steadily_call (i:=1) (v:=_) rfl rfl (by kernel_rfl) (by kernel_rfl) (fun _ _ _ h=>h) (by rfl) ?_ (fun w' hq=>HQ.out w' (hE.q (Q.trans hq0 (Q.trans hqd hq)))) ?_
 ·(intro w' hq; go_simp; try with_reducible rfl)
 simp only [Act.put,zs1,zs2,zs3]
 refine svq 2 rfl (by intro w' hq; have hc0:=qcell hq d0; have hc1:=qcell hq d1; go_simp; try with_reducible rfl) ?_
 refine svq 3 rfl (by intro w' hq; have hc0:=qcell hq d0; have hc1:=qcell hq d1; go_simp; try with_reducible rfl) ?_
 refine steadily_call (i:=4) (v:=_) rfl rfl (by kernel_rfl) (by kernel_rfl) (fun _ _ _ h=>h) (by rfl) ?_ (fun w' hq=>HT.out w' (hE.q (Q.trans hq0 (Q.trans hqd hq)))) ?_
 ·(intro w' hq; go_simp; try with_reducible rfl)
 simp only [Act.put,zs1,zs2,zs3]
 refine steadily_call (i:=5) (v:=_) rfl rfl (by kernel_rfl) (by kernel_rfl) (fun _ _ _ h=>h) (by rfl) ?_ (fun w' hq=>HO.out w' (hE.q (Q.trans hq0 (Q.trans hqd hq)))) ?_
 ·(intro w' hq; go_simp; try with_reducible rfl)
 simp only [Act.put,zs1,zs2,zs3]
 refine steadily_alloc (i:=6) (.cells #[.string ⟨#[]⟩,.string ⟨#[]⟩] 270) rfl rfl (by kernel_rfl) (by rfl) ?_ (fun w2 hq2=>?_)
 ·(intro w' hq; go_simp; try with_reducible rfl)
 simp only [Act.put,zs1,zs2,zs3]
 refine steadily_done (by kernel_rfl) (fun w3 hq3=>?_)
 simp only [List.drop_succ_cons,List.drop_zero]
 have hQ2:Q w w2:=Q.trans hq0 (Q.trans hqd hq2)
 have hQ3:Q w w3:=Below.trans (q_alloc hQ2 _) (hq3.mono (by have:=hQ2.size; simp; omega))
 have T0:=(Blk.new w2 [.string ⟨#[]⟩,.string ⟨#[]⟩] 270).keep hq3 (by simp)
 clear hQ1 hs1 P d0 d1
 have hz2:=hQ2.size
 have hz3:=hQ3.size
 have g0:=T0.frozen 0
 have g1:=T0.frozen 1
 have e0:=T0.cell 0
 have e1:=T0.cell 1
 have lT:=T0.lt
 simp only [zs4,zs5] at e0 e1
 have T:=T0.set2 (x':=.string ⟨PN.toArray⟩) (y':=.string ⟨PD.toArray⟩)
 go_wp2_with fail
 refine (HM.out _ (hE.ofQ bt)).mono ?_
 rintro e w4 ⟨rfl,hq4⟩
 have hQ4:Q w w4:=Below.trans bt (hq4.mono (by simp; omega))
 replace T:=T.keep hq4 (by simp; omega)
 clear g0 g1 e0 e1 T0
 have t0:=T.cell 0
 have t1:=T.cell 1
 have f0:=T.frozen 0
 replace lT:=T.lt
 simp only [zs4,zs5] at t0 t1
 go_wp2_with fail
 refine (HF.out _ (hE.ofQ bt)).mono ?_
 rintro e w5 ⟨rfl,hq5⟩
 have hQ5:Q w w5:=Below.trans bt (hq5.mono (by have:=hQ4.size; simp; omega))
 go_wp2_with fail
 refine (HR.out _ (hE.ofQ bt)).mono ?_
 rintro e w6 ⟨rfl,hq6⟩
 have hQ6:Q w w6:=Q.trans hQ5 hq6
 go_wp2
 go_ret
 exact ⟨rfl,bt⟩
set_option maxHeartbeats 1000000 in
theorem root_multiple (n:Nat) (u:Rat) (bn:Bd 40 (n:Rat)) (bu:Bd 10 u) (w:World) (hE:Env w) :
  Calls Tryz.prog 287 #[.string ⟨(Lib.itoa (n:Int)).toArray⟩,.string ⟨(rstr u).toArray⟩] w fun e w'=>e=.returned (.string ⟨(rstr ((n:Rat)*u)).toArray⟩)∧Q w w':=by
 have hm:=fun w hw=>rational_Mul_bd (n:Rat) u bn bu (by decide) w hw
 rw [rstr_nat] at hm
 have HM:=LH hm
 clear hm bn bu
 generalize rstr ((n:Rat)*u)=R at *
 generalize rstr u=U at *
 generalize Lib.itoa (n:Int)=N at *
 go_enter Tryz.func287,Tryz.ntmps287
 have hQ0:=Q.refl w
 go_wp2_with fail
 refine (HM.out _ (hE.ofQ bt)).mono ?_
 rintro e w1 ⟨rfl,hq1⟩
 have hs1:Q w w1:=Q.trans bt hq1
 have hQ1:Q w w1:=Q.trans hQ0 hs1
 go_wp2
 go_ret
 exact ⟨rfl,bt⟩
set_option maxHeartbeats 1000000 in
theorem root_Floor (q u:Rat) (bq:Bd 70 q) (bu:Bd 10 u) (q0:0≤q.num) (u0:0<u.num) (bn:Bd 40 ((unitsN q u:Nat):Rat)) (w:World) (hE:Env w) :
  Calls Tryz.prog 271 #[.string ⟨(rstr q).toArray⟩,.string ⟨(rstr u).toArray⟩] w fun e w'=>e=.returned (.tuple #[.string ⟨(rstr (((unitsN q u:Nat):Rat)*u)).toArray⟩,.int .i64 0])∧Q w w':=by
 have HE:=LH (fun w hw=>root_unitErrors q u (bq.root90 (by decide)) (bu.root90 (by decide)) q0 u0 w hw)
 have HU:=LH (fun w hw=>root_units q u bq bu q0 u0 w hw)
 have HM:=LH (fun w hw=>root_multiple (unitsN q u) u bn bu w hw)
 clear bq bu q0 u0 bn
 generalize rstr (((unitsN q u:Nat):Rat)*u)=R at *
 generalize Lib.itoa ((unitsN q u:Nat):Int)=N at *
 generalize rstr q=X at *
 generalize rstr u=U at *
 go_enter Tryz.func271,Tryz.ntmps271
 have hQ0:=Q.refl w
 go_wp2_with fail
 refine (HE.out _ (hE.ofQ bt)).mono ?_
 rintro e w1 ⟨rfl,hq1⟩
 have hs1:Q w w1:=Q.trans bt hq1
 have hQ1:Q w w1:=Q.trans hQ0 hs1
 go_wp2_with fail
 refine (HU.out _ (hE.ofQ bt)).mono ?_
 rintro e w2 ⟨rfl,hq2⟩
 have hs2:Q w1 w2:=Q.trans bt hq2
 have hQ2:Q w w2:=Q.trans hQ1 hs2
 go_wp2_with fail
 refine (HM.out _ (hE.ofQ bt)).mono ?_
 rintro e w3 ⟨rfl,hq3⟩
 have hs3:Q w2 w3:=Q.trans bt hq3
 have hQ3:Q w w3:=Q.trans hQ2 hs3
 go_wp2
 go_ret2
 exact ⟨rfl,bt⟩
set_option maxRecDepth 100000 in
set_option maxHeartbeats 1000000 in
theorem rational_Floor_small (x:Rat) (hx:Small8 x) (x0:0≤x.num) (w:World) (hE:Env w) :
  Calls Tryz.prog 272 #[.string ⟨(rstr x).toArray⟩] w fun e w'=>e=.returned (.tuple #[.string ⟨(Lib.itoa ((x.num.toNat / x.den:Nat):Int)).toArray⟩,.int .i64 0])∧Q w w':=by
 have hn:=fun w=>rational_nativeOf (rstr x) (by have:=small_len hx; omega) w
 rw [natOfV_small hx] at hn
 have HN:=LH hn
 obtain ⟨h1,h2⟩:=hx
 have hd:=x.den_pos
 obtain ⟨a,ha⟩:∃ a:Nat,x.num=a:=⟨x.num.toNat,by omega⟩
 rw [ha] at HN
 rw [ha,Int.toNat_natCast]
 rw [ha,Int.natAbs_natCast] at h1
 clear hn x0 ha
 generalize rstr x=X at *
 generalize x.den=d at *
 have hq:a / d≤a:=Nat.div_le_self _ _
 have e1:(a:Int).tdiv (d:Int)=((a / d:Nat):Int):=by rw [Int.natCast_ediv,Int.tdiv_eq_ediv_of_nonneg (by omega)]
 have e2:¬ (a:Int).tmod (d:Int)<0:=by have:=Int.tmod_nonneg (b:=(d:Int)) (show (0:Int)≤a by omega); omega
 have e3:¬ (a:Int) % (d:Int)<0:=by have:=Int.emod_nonneg (a:Int) (show (d:Int)≠0 by omega); omega
 have e4:(a:Int) / (d:Int)=((a / d:Nat):Int):=(Int.natCast_ediv a d).symm
 have hdz:((d:Int) == 0)=false:=by simp; omega
 have hdn:(d:Int)≠0:=by omega
 generalize a / d=k at *
 go_enter Tryz.func272,Tryz.ntmps272
 have hQ0:=Q.refl w
 go_wp2_with fail
 refine (HN.out _).mono ?_
 rintro e w1 ⟨rfl,hq1⟩
 have hs1:Q w w1:=Q.trans bt hq1
 have hQ1:Q w w1:=Q.trans hQ0 hs1
 go_wp2_with fail
 refine (lib_Itoa _ (by omega) (by omega) _ (hE.ofQ bt)).mono ?_
 rintro e w2 ⟨rfl,hq2⟩
 have hQ2:Q w w2:=Q.trans hQ1 (Q.trans bt hq2)
 go_wp2
 go_ret2
 exact ⟨by rfl,hQ2⟩
end
section
open Go.RowKit Kp
open Go.Lib (decDigits)
set_option maxRecDepth 100000 in
set_option maxHeartbeats 1000000 in
theorem surd_visit_zero (b:Nat) (t:TypeId) (w:World) (hb:Blk w b [.string ⟨#[48]⟩,.string ⟨#[49]⟩] t) (f:Value) :
  Calls Tryz.prog 209 #[.slice (some ⟨b,0,none⟩) 1 1,f] w fun e w'=>e=.returned (.int .i64 0)∧Q w w':=by
 have lb:=hb.lt
 go_enter Tryz.func209,Tryz.ntmps209
 go_wp2
 go_loopw [13] (fun i wr=>(i=.int .i64 0∨i=.int .i64 1)∧Q w wr) (fun i _=>1 - (intOf i).toNat)
 case atStart=>exact ⟨.inl rfl,Below.refl _ _⟩
 case round =>
  obtain ⟨rfl | rfl,hQ⟩:=hrel
  ·have hB:=hb.keep hQ lb
   have c0:=hB.cell 0
   have c1:=hB.cell 1
   have l1:=hB.lt
   simp only [zs4,zs5] at c0 c1
   have hq0:Q w (wr.alloc (Obj.cells [.string ⟨#[48]⟩,.string ⟨#[49]⟩].toArray 225)):=hQ.alloc hQ.size _
   go_wp2
   try (go_quiet (fail); go_wp2)
   go_roundw
   case rel=>exact ⟨.inr rfl,by first | exact hq0 | exact Below.drewN hq0 _⟩
   case measure=>simp [intOf]
  ·go_wp2
   go_ret
   exact ⟨rfl,hQ⟩
set_option maxRecDepth 100000 in
set_option maxHeartbeats 2000000 in
theorem surd_Make_zero (b:Nat) (t:TypeId) (w:World) (hE:Env w) (hb:Blk w b [.string ⟨#[48]⟩,.string ⟨#[49]⟩] t) :
  Calls Tryz.prog 163 #[.slice (some ⟨b,0,none⟩) 1 1] w fun e w'=>e=.returned (.tuple #[.slice none 0 0,.int .i64 0])∧Q w w':=by
 have l0:=hb.lt
 have hc0:=fun w hw=>rational_Check_num 0 (show rlim 0=false by unfold rlim; rw [show ((0:Rat)).num=0 from rfl,show (((0:Rat)).den:Int)=1 from rfl,lim_one,lim_zero]; rfl) w hw
 have hc1:=fun w hw=>rational_Check_num 1 (show rlim 1=false by unfold rlim; rw [show ((1:Rat)).num=1 from rfl,show (((1:Rat)).den:Int)=1 from rfl,lim_one]; rfl) w hw
 rw [rstr_zero] at hc0
 rw [rstr_one] at hc1
 have HC0:=LH hc0
 have HC1:=LH hc1
 clear hc0 hc1
 go_enter Tryz.func163,Tryz.ntmps163
 go_wp2
 go_loopw [18] (fun i wr=>(i=.int .i64 0∨i=.int .i64 1)∧Q w wr) (fun i _=>1 - (intOf i).toNat)
 case atStart=>exact ⟨.inl rfl,Below.refl _ _⟩
 case round =>
  obtain ⟨rfl | rfl,hQ⟩:=hrel
  ·have hB:=hb.keep hQ l0
   have c0:=hB.cell 0
   have c1:=hB.cell 1
   have l1:=hB.lt
   simp only [zs4,zs5] at c0 c1
   go_wp2_with fail
   have hq0:Q w (wr.alloc (Obj.cells [.string ⟨#[48]⟩,.string ⟨#[49]⟩].toArray 225)):=hQ.alloc hQ.size _
   have BT:=Blk.new wr [.string ⟨#[48]⟩,.string ⟨#[49]⟩] 225
   refine (HC0.out _ (hE.q hq0)).mono ?_
   rintro e w1 ⟨rfl,hq1⟩
   have hQ1:=Q.trans hq0 hq1
   have B1:=BT.keep hq1 (by simp)
   have d1:=B1.cell 1
   simp only [zs4,zs5] at d1
   clear hq1 hq0 BT c0 c1
   go_wp2_with fail
   refine (HC1.out _ (hE.q hQ1)).mono ?_
   rintro e w2 ⟨rfl,hq2⟩
   have hQ2:=Q.trans hQ1 hq2
   have B2:=B1.keep hq2 B1.lt
   have d2:=B2.cell 1
   simp only [zs4,zs5] at d2
   clear hq2 hQ1 B1 d1
   go_wp2_with fail
   refine (lib_HasMinus [49] _).mono ?_
   rintro e w3 ⟨rfl,rfl⟩
   rw [show decide (([49]:Str).head?=some 45)=false by decide]
   go_wp2
   go_roundw
   case rel=>exact ⟨.inr rfl,hQ2⟩
   case measure=>simp [intOf]
  ·go_wp2_with fail
   have hBb:=(hb.keep hQ l0).alloc (Obj.cells #[Value.slice none 0 0] 290)
   have hG:=Blk.new wr [Value.slice none 0 0] 290
   refine (surd_visit_zero b t _ hBb _).mono ?_
   rintro e w1 ⟨rfl,hq1⟩
   have hQ1:Q w w1:=Q.trans (hQ.alloc hQ.size _) hq1
   replace hG:=hG.keep hq1 hG.lt
   have g0:=hG.cell 0
   simp only [List.getElem?_cons_zero] at g0
   go_wp2_with fail
   go_loopw [10,47] (fun o i wr2=>o=.slice none 0 0∧i=.int .i64 0∧wr2=w1) (fun _ i _=>1 - (intOf i).toNat)
   case atStart=>exact ⟨rfl,rfl,rfl⟩
   case round =>
    obtain ⟨rfl,rfl,rfl⟩:=hrel
    go_wp2_with fail
    refine (sortFunc_zero _ _ _ _).mono ?_
    rintro e w2 ⟨⟨u,rfl⟩,rfl⟩
    go_wp2
    go_ret2
    exact ⟨rfl,hQ1⟩
set_option maxRecDepth 100000 in
set_option maxHeartbeats 4000000 in
theorem surd_Concat_nil (l2:List (Str × Str)) (h2:0<l2.length) (n2:l2.length≤1000) (v2:Value) (b:Nat) (t:TypeId) (w:World) (hb:Blk w b [.slice none 0 0,v2] t) (s2:TSl w w.heap.size v2 l2) :
  Calls Tryz.prog 290 #[.slice (some ⟨b,0,none⟩) 2 2] w fun e w'=>∃ v,e=.returned v∧Q w w'∧w'.ownsRow w.heap.size 225 2 v l2.length (rowS l2):=by
 have S2:=LH s2
 obtain ⟨b2,o2,cap2,rfl,-,-,-⟩:=s2.open h2
 have hg:=fun w=>grow_surd l2.length (by omega) (by omega) w
 have HG:=LH hg
 clear s2 hg
 have HN2:=LH (fun (W:World) (hq:Q w W) (j:Nat) (u:Value) (hu:(rowS l2)[j]?=some u)=>by
  obtain ⟨b',o',cap',hv,_,_,hc⟩:=(S2.out.keep hq (Nat.le_refl _)).open h2
  cases hv
  exact hc j u hu)
 have HL2:=LH (rowS_len l2)
 have HO2:=LH (rowS_one l2)
 generalize rowS l2=r2 at *
 generalize l2.length=m2 at *
 have lb:=hb.lt
 obtain ⟨i0,hi,hz0,hz1,hz2⟩:=info_of infoTerm
 have HI:=LH hi
 have HZ:=LH hz0
 have HS:=LH hz1
 have HBy:=LH hz2
 clear hi hz0 hz1 hz2
 have c0:=hb.cell 0
 have c1:=hb.cell 1
 simp only [zs4,zs5] at c0 c1
 have w1i:=Go.IntWalk.i64_in ((0:Int)+(m2:Int)) (by omega)
 go_enter Tryz.func290,Tryz.ntmps290
 go_wp2
 go_loop [3,11] (fun sz i=>(i=.int .i64 0∧sz=.int .i64 0)∨(i=.int .i64 1∧sz=.int .i64 0)∨(i=.int .i64 2∧sz=.int .i64 (m2:Int))) (fun _ i=>2 - (intOf i).toNat)
 case atStart=>exact .inl ⟨rfl,rfl⟩
 case round =>
  rcases hrel with ⟨rfl,rfl⟩ | ⟨rfl,rfl⟩ | ⟨rfl,rfl⟩
  ·go_wp2
   go_round
   case rel=>exact .inr (.inl ⟨rfl,by first | rfl | go_num⟩)
   case measure=>simp [intOf]
  ·go_wp2
   go_round
   case rel=>exact .inr (.inr ⟨rfl,by go_num⟩)
   case measure=>simp [intOf]
  ·go_wp2_with fail
   refine (HG.out _).mono ?_
   rintro e w1 ⟨v,rfl,hq1,hr1,g1,gc1,rfl⟩
   clear c0 c1
   have hb1:=hb.keep hq1 lb
   go_wp2
   go_loopw [6,27] (fun o i wr=>Q w wr∧((i=.int .i64 0∧o=.slice (some ⟨g1,0,none⟩) 0 gc1∧wr.ownsRow w.heap.size 225 2 o 0 [])∨(i=.int .i64 1∧o=.slice (some ⟨g1,0,none⟩) 0 gc1∧wr.ownsRow w.heap.size 225 2 o 0 [])∨(i=.int .i64 2∧wr.ownsRow w.heap.size 225 2 o m2 r2))) (fun _ i _=>2 - (intOf i).toNat)
   case atStart=>exact ⟨hq1,.inl ⟨rfl,rfl,hr1⟩⟩
   case round =>
    obtain ⟨hQ,⟨rfl,rfl,hrow⟩ | ⟨rfl,rfl,hrow⟩ | ⟨rfl,hrow⟩⟩:=hrel
    ·have hbr:=hb.keep hQ lb
     have c0:=hbr.cell 0
     simp only [List.getElem?_cons_zero] at c0
     have lbr:=hbr.lt
     go_wp2
     try (go_quiet (fail); go_wp2)
     go_roundw
     case rel=>exact ⟨hQ,.inr (.inl ⟨rfl,rfl,hrow⟩)⟩
     case measure=>simp [intOf]
    ·have hbr:=hb.keep hQ lb
     have c1:=hbr.cell 1
     simp only [zs4,zs5] at c1
     have lbr:=hbr.lt
     go_wp2_with (at_builtin; refine wpList_append_lies _ (by rfl) (.tmp 31) (.tmp 32) 115 (by rfl) w.heap.size 225 i0 _ 2 32 Tryz.underlying115 HI.out HZ.out HS.out HBy.out rfl (by decide) (.slice (some ⟨g1,0,none⟩) 0 gc1) 0 [] (by rfl) hrow ⟨b2,o2,none⟩ m2 cap2 r2 (by rfl) HL2.out (HN2.out _ hQ) HO2.out h2 (by unfold maxLen; omega) (by omega) hQ.size _ (by rfl) ?_; intro g4 cap4 w4 hown4 hgrow4 hat4 hlt4)
     go_roundw
     case rel=>exact ⟨hQ.grown hgrow4 hQ.size (fun k hk=>(hrow.lt k hk).1),.inr (.inr ⟨rfl,by rw [Nat.zero_add,List.nil_append] at hown4; simpa using hown4⟩)⟩
     case measure=>simp [intOf]
    ·go_wp2
     go_ret
     exact ⟨_,rfl,hQ,hrow⟩
set_option maxHeartbeats 1000000 in
theorem surd_Check_nil (w:World):Calls Tryz.prog 154 #[.slice none 0 0] w fun e w'=>e=.returned (.int .i64 0)∧Q w w':=by
 go_enter Tryz.func154,Tryz.ntmps154
 go_wp2
 go_loopw [13] (fun i wr=>i=.int .i64 0∧wr=w) (fun _ _=>0)
 case atStart=>exact ⟨rfl,rfl⟩
 case round =>
  obtain ⟨rfl,rfl⟩:=hrel
  go_wp2
  go_ret
  exact ⟨rfl,bt⟩
set_option maxHeartbeats 1000000 in
theorem surd_both_nil (x:Rat) (l:Nat) (hx:Term1 x l) (B:Nat) (v:Value) (w:World) (hE:Env w) (h:Surd1 w B v x l) :
  Calls Tryz.prog 289 #[.slice none 0 0,v] w fun e w'=>e=.returned (.bool true)∧Q w w':=by
 have HC:=LH (fun w hw hv=>surd_Check_one x l hx B v w hw hv)
 have HN:=LH (fun w=>surd_Check_nil w)
 have HV:=LH h
 clear hx h
 go_enter Tryz.func289,Tryz.ntmps289
 have hQ0:=Q.refl w
 go_wp2_with fail
 refine (HN.out _).mono ?_
 rintro e w1 ⟨rfl,hq1⟩
 have hs1:Q w w1:=Q.trans bt hq1
 have hQ1:Q w w1:=Q.trans hQ0 hs1
 go_wp2_with fail
 refine (HC.out _ (hE.q hQ1) (surd1_keep HV.out hQ1)).mono ?_
 rintro e w2 ⟨rfl,hq2⟩
 have hs2:Q w1 w2:=Q.trans bt hq2
 have hQ2:Q w w2:=Q.trans hQ1 hs2
 go_wp2
 go_ret
 exact ⟨rfl,bt⟩
theorem neg_sign {x:Rat} {l:Nat} (px:0<x.num) (hl:0<l) (dx:x.den<10 ^ 8):signS [(-x,l)]=some (-1):=by
 rw [sign_one (by rw [rneg_num]; omega) hl (by rw [rneg_den]; exact Nat.lt_of_lt_of_le dx (by decide)),if_neg (by rw [rneg_num]; omega)]
theorem two_neg {x y:Rat} {l m:Nat} (hx:x.num<0) (hy:y.num<0) (hl:0<l) (hm:0<m) (dx:x.den<10 ^ 60):signS [(x,l),(y,m)]=some (-1):=by
 have hU:∀ P,0<floorU x l P:=fun P=>(floor_up x l P (floorS_pos (by omega) hl)).2.1
 have hV:∀ P,0<floorU y m P:=fun P=>(floor_up y m P (floorS_pos (by omega) hm)).2.1
 have h64:10000≤floorU x l 64:=by
  have h1:=floorS_ge (x:=x) (P:=64) (by omega) hl
  have h2:10000≤isqrt (floorS x l 64) / x.den:=by
   rw [Nat.le_div_iff_mul_le x.den_pos]
   have:10000*x.den≤10 ^ 64:=Nat.le_trans (Nat.mul_le_mul_left 10000 (Nat.le_of_lt dx)) (by decide)
   omega
  unfold floorU; split <;> omega
 have hs:∀ P,sumT [(x,l),(y,m)] P = -((floorU x l P:Nat):Int) + -((floorU y m P:Nat):Int):=fun P=>by
  simp only [sumT]
  rw [floorT_neg hx,floorT_neg hy]; omega
 refine signS_of (by simp) (fun P b _=>?_) ?_
 ·rw [hs]
  have:=hU P
  have:=hV P
  unfold stepS
  rw [if_neg (by omega)]
  split
  ·exact .inr rfl
  ·exact .inl rfl
 ·rw [hs]
  have:=hV 64
  unfold stepS
  rw [if_neg (by omega),if_pos (.inl (by simp only [List.length_cons,List.length_nil]; omega))]
theorem num_neg_add {a b:Rat} (ha:a.num<0) (hb:b.num<0):(a+b).num<0:=by
 have h1:0<(-a).num:=by rw [rneg_num]; omega
 have h2:0<(-b).num:=by rw [rneg_num]; omega
 have h3:0≤(-a)+(-b):=Rat.add_nonneg (Rat.num_nonneg.1 (by omega)) (Rat.num_nonneg.1 (by omega))
 have h4:(-a)+(-b)≠0:=fun e=>by
  have h5:-a=b:=by grind
  rw [h5] at h1
  omega
 have h6:0≤((-a)+(-b)).num:=Rat.num_nonneg.2 h3
 have h7:((-a)+(-b)).num≠0:=fun e=>h4 (Rat.num_eq_zero.1 e)
 have h8:a+b = -((-a)+(-b)):=by grind
 rw [h8,rneg_num]; omega
theorem num_neg_mul {a k:Rat} (ha:a.num<0) (hk:0<k.num):(a*k).num<0:=by
 have h1:=num_pos_mul (a:=-a) (b:=k) (by rw [rneg_num]; omega) hk
 rw [Rat.neg_mul,rneg_num] at h1
 omega
theorem neg_diff {x y:Rat} {l m:Nat} (px:x.num<0) (py:0<y.num) (hl:0<l) (hm:0<m) (bx:Bd 20 x) (bY:Bd 20 y) (bl:l<10 ^ 16) (bm:m<10 ^ 16) :
  signS (srtC (outC (addC [(x,l)] (-y,m))))=some (-1)∧(∀ c∈addC [(x,l)] (-y,m),Bd 50 c.1∧0<c.2∧c.2<10 ^ 16):=by
 have hny:Bd 20 (-y):=neg_bd bY
 have ny:(-y).num<0:=by rw [rneg_num]; omega
 have bk:∀ a b:Nat,0<a→a<10 ^ 16→b<10 ^ 16→Bd 8 (sqR ((b:Rat) / (a:Rat))):=fun a b ha h1 h2=>sqR_bd (n:=8) (quot_bd ha h1 h2)
 have key:∀ (z:Rat) (n:Nat),z.num<0→Bd 49 z→0<n→n<10 ^ 16→addC [(x,l)] (-y,m)=[(z,n)]→signS (srtC (outC (addC [(x,l)] (-y,m))))=some (-1)∧(∀ c∈addC [(x,l)] (-y,m),Bd 50 c.1∧0<c.2∧c.2<10 ^ 16):=by
  intro z n hz hb hn hn2 e
  have hz0:z≠0:=fun e=>by rw [e] at hz; simp at hz
  rw [e]
  refine ⟨?_,fun c hc=>?_⟩
  ·rw [show outC [(z,n)]=[(z,n)] by unfold outC; simp [hz0],show srtC [(z,n)]=[(z,n)] from rfl,sign_one (by omega) hn (Nat.lt_of_lt_of_le hb.2 (by decide)),if_neg (by omega)]
  ·rw [List.mem_singleton] at hc; subst hc; exact ⟨hb.mono (by decide),hn,hn2⟩
 by_cases hq:isSq ((m:Rat) / (l:Rat))=true
 ·by_cases hml:m<l
  ·refine key (-y+x*sqR ((l:Rat) / (m:Rat))) m ?_ (hny.add (bx.mul (bk m l hm bm bl))) hm bm ?_
   ·exact num_neg_add ny (num_neg_mul px (sqR_pos (quot_parts hm hl).1))
   ·unfold addC plusC
    rw [if_pos hq,if_pos hml]
  ·refine key (x + -y*sqR ((m:Rat) / (l:Rat))) l ?_ (bx.add (hny.mul (bk l m hl bl bm))) hl bl ?_
   ·exact num_neg_add px (num_neg_mul ny (sqR_pos (quot_parts hl hm).1))
   ·unfold addC plusC
    rw [if_pos hq,if_neg hml]
 ·have e2:addC [(x,l)] (-y,m)=[(x,l),(-y,m)]:=by
   unfold addC
   rw [if_neg hq]
   rfl
  have hx0:x≠0:=fun e=>by rw [e] at px; simp at px
  have hy0:-y≠0:=fun e=>by rw [e] at ny; simp at ny
  rw [e2]
  refine ⟨?_,fun c hc=>?_⟩
  ·rw [show outC [(x,l),(-y,m)]=[(x,l),(-y,m)] by unfold outC; simp [hx0,hy0]]
   show signS (if m<l then [(-y,m),(x,l)] else [(x,l),(-y,m)])=_
   split
   ·exact two_neg ny px hm hl (Nat.lt_of_lt_of_le hny.2 (by decide))
   ·exact two_neg px ny hl hm (Nat.lt_of_lt_of_le bx.2 (by decide))
  ·rw [List.mem_cons,List.mem_singleton] at hc
   rcases hc with rfl | rfl
   ·exact ⟨bx.mono (by decide),hl,bl⟩
   ·exact ⟨hny.mono (by decide),hm,bm⟩
set_option maxRecDepth 100000 in
set_option maxHeartbeats 2000000 in
theorem surd_Compare_sgn (x y:Rat) (l m:Nat) (hx:Term1 x l) (hy:Term1 y m) (bx:Bd 20 x) (bY:Bd 20 y) (bl:l<10 ^ 16) (bm:m<10 ^ 16) (σ:Int) (hs:signS (srtC (outC (addC [(x,l)] (-y,m))))=some σ) (hcb:∀ c∈addC [(x,l)] (-y,m),Bd 50 c.1∧0<c.2∧c.2<10 ^ 16)
  (B1 B2:Nat) (v1 v2:Value) (w:World) (hE:Env w) (h1:Surd1 w B1 v1 x l) (h2:Surd1 w B2 v2 y m) :
  Calls Tryz.prog 249 #[v1,v2] w fun e w'=>e=.returned (.tuple #[.int .i64 σ,.int .i64 0])∧Q w w':=by
 have HSUB:=LH (surd_Sub_one x y l m hx hy bx bY bl bm hcb B1 B2 v1 v2 w hE h1 h2)
 have hvs:∀ t∈srtC (outC (addC [(x,l)] (-y,m))),VS t:=fun t ht=>by
  obtain ⟨a1,a2,a3⟩:=hcb t (mem_outC (mem_srtC ht))
  exact ⟨a1.mono (by decide),Nat.lt_of_lt_of_le a3 (by decide)⟩
 have hlen:(srtC (outC (addC [(x,l)] (-y,m)))).length≤1000:=by
  have h1:=srtC_len (outC (addC [(x,l)] (-y,m)))
  have h2:=outC_len (addC [(x,l)] (-y,m))
  have h3:=addC_len [(x,l)] (-y,m)
  simp at h3; omega
 have hsg:=fun v w hw hp hsl=>surd_sign (srtC (outC (addC [(x,l)] (-y,m)))) hvs hlen v w hw hp hsl
 have hv:signV (srtC (outC (addC [(x,l)] (-y,m))))=.tuple #[.int .i64 σ,.int .i64 0]:=by unfold signV; rw [hs]
 rw [hv] at hsg
 have HSG:=LH hsg
 obtain ⟨g1,c1,rfl,-,-⟩:=World.ownsRow.form h1 (by omega)
 obtain ⟨g2,c2,rfl,-,-⟩:=World.ownsRow.form h2 (by omega)
 generalize srtC (outC (addC [(x,l)] (-y,m)))=R at *
 clear hs hcb hvs hsg hv hx hy bx bY bl bm h1 h2
 go_enter Tryz.func249,Tryz.ntmps249
 go_wp2_with fail
 refine HSUB.out.mono ?_
 rintro e w1 ⟨v,rfl,hq1,hr⟩
 have HR:=LH hr
 obtain ⟨a,cap,hv⟩:=row_form hr
 rw [List.length_map] at hv
 subst hv
 clear hr hlen
 go_wp2_with fail
 refine (HSG.out _ _ (hE.q hq1) ((hE.q hq1).places) (TSl.of_row HR.out)).mono ?_
 rintro e w2 ⟨rfl,hq2⟩
 have hQ2:=Q.trans hq1 hq2
 go_wp2
 go_ret2
 exact ⟨rfl,hQ2⟩
set_option maxRecDepth 100000 in
set_option maxHeartbeats 2000000 in
theorem surd_Scale_one {n:Nat} (x c:Rat) (l:Nat) (hx:Term1 x l) (bx:Bd 40 x) (bc:Bd n c) (hn:n≤20) (hc0:c≠0) (hl:l<10 ^ 40) (B:Nat) (v:Value) (w:World) (hE:Env w) (hv:Surd1 w B v x l) :
  Calls Tryz.prog 126 #[v,.string ⟨(rstr c).toArray⟩] w fun e w'=>∃ v',e=.returned (.tuple #[v',.int .i64 0])∧Q w w'∧Surd1 w' w.heap.size v' (x*c) l:=by
 have HC:=LH (surd_Check_one x l hx B v w hE hv)
 have HR:=LH (fun w hw=>rational_Check_num c (bc.rlim (by omega)) w hw)
 have hsc:=fun v w hw hs=>surd_scaled [(x,l)] c (bc.mono (by omega)) (fun t ht=>by rw [List.mem_singleton] at ht; subst ht; exact bx.mono (by decide)) (by simp) v w hw hs
 rw [show (scaleT c [(x,l)]).map ofC=[ofC (x*c,l)] by simp [scaleT]] at hsc
 have HSC:=LH hsc
 have hb:Bd 60 (x*c):=(bx.mul bc).mono (by omega)
 have hne:x*c≠0:=fun e=>by
  rcases Rat.mul_eq_zero.1 e with h | h
  ·exact hx.ne h
  ·exact hc0 h
 have hlq:Bd 42 (l:Rat):=⟨by rw [Rat.num_natCast,Int.natAbs_natCast]; exact Nat.lt_of_lt_of_le hl (by decide),by rw [Rat.den_natCast]; exact by decide⟩
 have hl40:Bd 40 (l:Rat):=⟨by rw [Rat.num_natCast,Int.natAbs_natCast]; exact hl,by rw [Rat.den_natCast]; exact by decide⟩
 have hmk:∀ (rest:List Value) (cap b:Nat) (t:TypeId) (w:World),Env w→Blk w b (.string ⟨(rstr (x*c)).toArray⟩::.string ⟨(Lib.itoa (l:Int)).toArray⟩::rest) t →
   Calls Tryz.prog 163 #[.slice (some ⟨b,0,none⟩) 1 cap] w fun e w'=>∃ v',e=.returned (.tuple #[v',.int .i64 0])∧Q w w'∧Surd1 w' w.heap.size v' (x*c) l:=fun rest cap b t w hw hb'=>by
  have h:=surd_Make_root (rest:=rest) (cap:=cap) (x*c) (l:Rat) hb (by decide) hne hlq (by rw [Rat.num_natCast]; have:=hx.norm.1; omega) b t w hw (by rw [rstr_nat]; exact hb')
  have hp:=norm_parts hx.norm
  rw [hp.1,Rat.mul_one,lOf_left,hp.2] at h
  refine h.mono fun e w' he=>?_
  obtain ⟨hq,v,hv,hs⟩:=MakeEnd.good (l:=l) he (by have:=longV_bd hb (by decide); omega) (by have:=longV_bd hl40 (by decide); omega)
  exact ⟨v,hv,hq,hs⟩
 have HMK:=LH hmk
 have r1:Hid (w.ownsRow B 225 2 v ([(x,l)].map ofC).length (rowS ([(x,l)].map ofC))):=LH hv
 obtain ⟨g1,c1,rfl,-,-⟩:=World.ownsRow.form hv (by omega)
 clear hx bx bc hn hc0 hl hsc hb hne hlq hl40 hmk hv
 unfold Surd1 at HMK ⊢
 have hP1:(ofC (x*c,l)).1=rstr (x*c):=rfl
 have hP2:(ofC (x*c,l)).2=Lib.itoa (l:Int):=rfl
 rw [← hP1,← hP2] at HMK
 rw [← hP1,← hP2]
 clear hP1 hP2
 generalize ofC (x*c,l)=P1 at *
 generalize rstr c=C at *
 go_enter Tryz.func126,Tryz.ntmps126
 go_wp2_with fail
 refine HC.out.mono ?_
 rintro e w1 ⟨rfl,hq1⟩
 go_wp2_with fail
 refine (HR.out _ (hE.q hq1)).mono ?_
 rintro e w2 ⟨rfl,hq2⟩
 have hQ2:=Q.trans hq1 hq2
 go_wp2_with fail
 refine (HSC.out _ _ (hE.q hQ2) (TSl.of_row (ownsRow_keep r1.out hQ2))).mono ?_
 rintro e w3 ⟨v3,rfl,hq3,hr3⟩
 have hQ3:=Q.trans hQ2 hq3
 obtain ⟨g3,c3,rest3,rfl,-,hb3⟩:=row_blk (P:=.string ⟨P1.1.toArray⟩) (R:=.string ⟨P1.2.toArray⟩) hr3
 clear hr3
 go_wp2_with fail
 refine (HMK.out rest3 c3 g3 _ _ (hE.q hQ3) hb3).mono ?_
 rintro e w4 ⟨v4,rfl,hq4,hr4⟩
 have hQ4:=Q.trans hQ3 hq4
 have R4:=LH (Joins.ownsRow_le hr4 hQ3.size)
 clear hr4
 go_wp2
 go_ret2
 exact ⟨_,rfl,hQ4,R4.out⟩
end
end Go.Proofs.YtohlpeicpoaanaaGreatDoor
namespace Kp
structure FloorIs (F X d:Nat):Prop where
 lo:F*F*d≤X
 hi:X<(F+1)*(F+1)*d
theorem div_of {a n k d:Nat} (hn:0<n) (hd:0<d) (h:a*n=k*d):a / d=k / n:=by
 rw [← Nat.mul_div_mul_right a d hn,← Nat.mul_div_mul_right k n hd,h,Nat.mul_comm d n]
theorem floor_is {N D X dd:Nat} (hD:0<D) (hdd:0<dd) (h:N*dd=X*D):FloorIs (isqrt ((N*(1000*1000)) / (D*(1*1))) / 1000) X dd:=by
 simp only [Nat.mul_one]
 obtain ⟨h1,h2⟩:=isqrt_spec ((N*(1000*1000)) / D)
 generalize isqrt ((N*(1000*1000)) / D)=K at *
 have a1:K*K*D≤N*(1000*1000):=by
  have:=Nat.mul_le_mul_right D h1
  exact Nat.le_trans this (Nat.div_mul_le_self _ _)
 have a2:N*(1000*1000)<(K+1)*(K+1)*D:=(Nat.div_lt_iff_lt_mul hD).1 h2
 obtain ⟨F,hF⟩:∃ F,K / 1000=F:=⟨_,rfl⟩
 rw [hF]
 have b1:F*1000≤K:=by omega
 have b2:K+1≤(F+1)*1000:=by omega
 have c1:(F*1000)*(F*1000)≤K*K:=Nat.mul_le_mul b1 b1
 have c2:(K+1)*(K+1)≤((F+1)*1000)*((F+1)*1000):=Nat.mul_le_mul b2 b2
 have d1:F*F*D≤N:=by
  have:=Nat.le_trans (Nat.mul_le_mul_right D c1) a1
  have e:F*1000*(F*1000)*D=F*F*D*(1000*1000):=by ac_rfl
  rw [e] at this
  exact Nat.le_of_mul_le_mul_right this (by decide)
 have d2:N<(F+1)*(F+1)*D:=by
  have:=Nat.lt_of_lt_of_le a2 (Nat.mul_le_mul_right D c2)
  have e:(F+1)*1000*((F+1)*1000)*D=(F+1)*(F+1)*D*(1000*1000):=by ac_rfl
  rw [e] at this
  exact Nat.lt_of_mul_lt_mul_right this
 refine ⟨?_,?_⟩
 ·have:=Nat.mul_le_mul_right dd d1
  rw [h] at this
  have e:F*F*D*dd=F*F*dd*D:=by ac_rfl
  rw [e] at this
  exact Nat.le_of_mul_le_mul_right this hD
 ·have:=Nat.mul_lt_mul_of_pos_right d2 hdd
  rw [h] at this
  have e:(F+1)*(F+1)*D*dd=(F+1)*(F+1)*dd*D:=by ac_rfl
  rw [e] at this
  exact Nat.lt_of_mul_lt_mul_right this
end Kp
namespace Go.Proofs.YtohlpeicpoaanaaGreatDoor
section
open Go.RowKit Kp
open Go.Lib (decDigits)
set_option maxRecDepth 100000 in
set_option maxHeartbeats 2000000 in
theorem surd_Compare_nil (x:Rat) (l:Nat) (hx:Term1 x l) (px:0<x.num) (bx:Bd 20 x) (dx:x.den<10 ^ 8) (bl:l<10 ^ 16) (B:Nat) (v:Value) (w:World) (hE:Env w) (hv:Surd1 w B v x l) :
  Calls Tryz.prog 249 #[.slice none 0 0,v] w fun e w'=>e=.returned (.tuple #[.int .i64 (-1),.int .i64 0])∧Q w w':=by
 have HB:=LH (surd_both_nil x l hx B v w hE hv)
 have hsc:=fun v w hw hs=>surd_scaled [(x,l)] (-1) bd_minus_one (fun t ht=>by rw [List.mem_singleton] at ht; subst ht; exact bx.mono (by decide)) (by simp) v w hw hs
 rw [rstr_minus_one,show (scaleT (-1) [(x,l)]).map ofC=[ofC (-x,l)] by simp [scaleT,mul_minus_one]] at hsc
 have HSC:=LH hsc
 have HCC:=LH (fun v2 b t w hb s2=>surd_Concat_nil [ofC (-x,l)] (by simp) (by simp) v2 b t w hb s2)
 have hny:Bd 60 (-x):=(neg_bd bx).mono (by decide)
 have hne:-x≠0:=fun e=>hx.ne (by have:=congrArg (fun q=>-q) e; simpa using this)
 have hlq:Bd 42 (l:Rat):=⟨by rw [Rat.num_natCast,Int.natAbs_natCast]; exact Nat.lt_of_lt_of_le bl (by decide),by rw [Rat.den_natCast]; exact by decide⟩
 have hl40:Bd 40 (l:Rat):=⟨by rw [Rat.num_natCast,Int.natAbs_natCast]; exact Nat.lt_of_lt_of_le bl (by decide),by rw [Rat.den_natCast]; exact by decide⟩
 have hmk:∀ (rest:List Value) (cap b:Nat) (t:TypeId) (w:World),Env w→Blk w b (.string ⟨(rstr (-x)).toArray⟩::.string ⟨(Lib.itoa (l:Int)).toArray⟩::rest) t →
   Calls Tryz.prog 163 #[.slice (some ⟨b,0,none⟩) 1 cap] w fun e w'=>∃ v',e=.returned (.tuple #[v',.int .i64 0])∧Q w w'∧Surd1 w' w.heap.size v' (-x) l:=fun rest cap b t w hw hb'=>by
  have h:=surd_Make_root (rest:=rest) (cap:=cap) (-x) (l:Rat) hny (by decide) hne hlq (by rw [Rat.num_natCast]; have:=hx.norm.1; omega) b t w hw (by rw [rstr_nat]; exact hb')
  have hp:=norm_parts hx.norm
  rw [hp.1,Rat.mul_one,lOf_left,hp.2] at h
  refine h.mono fun e w' he=>?_
  obtain ⟨hq,v,hv,hs⟩:=MakeEnd.good (l:=l) he (by have:=longV_bd hny (by decide); omega) (by have:=longV_bd hl40 (by decide); omega)
  exact ⟨v,hv,hq,hs⟩
 have HMK:=LH hmk
 have hsg:=fun v w hw hp hsl=>surd_sign [(-x,l)] (fun t ht=>by rw [List.mem_singleton] at ht; subst ht; exact ⟨hny,Nat.lt_of_lt_of_le bl (by decide)⟩) (by simp) v w hw hp hsl
 have hvv:signV [(-x,l)]=.tuple #[.int .i64 (-1),.int .i64 0]:=by unfold signV; rw [neg_sign px hx.norm.1 dx]
 rw [hvv] at hsg
 have HSG:=LH hsg
 have r1:Hid (w.ownsRow B 225 2 v ([(x,l)].map ofC).length (rowS ([(x,l)].map ofC))):=LH hv
 obtain ⟨g1,c1,rfl,-,-⟩:=World.ownsRow.form hv (by omega)
 clear hx px bx dx bl hsc hny hne hlq hl40 hmk hsg hvv hv
 have HSUB:Hid (Calls Tryz.prog 275 #[.slice none 0 0,.slice (some ⟨g1,0,none⟩) 1 c1] w fun e w'=>∃ v',e=.returned (.tuple #[v',.int .i64 0])∧Q w w'∧Surd1 w' w.heap.size v' (-x) l):=LH (by
  unfold Surd1 at HMK ⊢
  have hP1:(ofC (-x,l)).1=rstr (-x):=rfl
  have hP2:(ofC (-x,l)).2=Lib.itoa (l:Int):=rfl
  rw [← hP1,← hP2] at HMK
  rw [← hP1,← hP2]
  clear hP1 hP2 HSG
  generalize ofC (-x,l)=P1 at *
  go_enter Tryz.func275,Tryz.ntmps275
  go_wp2_with fail
  refine HB.out.mono ?_
  rintro e w1 ⟨rfl,hq1⟩
  go_wp2_with fail
  refine (HSC.out _ _ (hE.q hq1) (TSl.of_row (ownsRow_keep r1.out hq1))).mono ?_
  rintro e w2 ⟨v3,rfl,hq2,hr3⟩
  have hQ2:=Q.trans hq1 hq2
  have R3:=LH hr3
  obtain ⟨g3,c3,rfl,-,-⟩:=hr3.form (by simp)
  clear hr3
  go_wp2_with fail
  have hb:=Blk.new w2 [.slice none 0 0,.slice (some ⟨g3,0,none⟩) 1 c3] 115
  have hqa:=hQ2.alloc hQ2.size (Obj.cells [.slice none 0 0,.slice (some ⟨g3,0,none⟩) 1 c3].toArray 115)
  refine (HCC.out _ _ _ _ hb (TSl.of_row (R3.out.alloc _))).mono ?_
  rintro e w3 ⟨v4,rfl,hq3,hr4⟩
  have hQ3:=Q.trans hqa hq3
  obtain ⟨g4,c4,rest4,rfl,-,hb4⟩:=row_blk (P:=.string ⟨P1.1.toArray⟩) (R:=.string ⟨P1.2.toArray⟩) hr4
  clear hr4
  go_wp2_with fail
  refine (HMK.out rest4 c4 g4 _ _ (hE.q hQ3) hb4).mono ?_
  rintro e w4 ⟨v5,rfl,hq4,hr5⟩
  have hQ4:=Q.trans hQ3 hq4
  have HR5:=LH (Joins.ownsRow_le hr5 hQ3.size)
  clear hr5
  go_wp2
  go_ret2
  exact ⟨_,rfl,hQ4,HR5.out⟩)
 clear HB HSC HCC HMK r1
 go_enter Tryz.func249,Tryz.ntmps249
 go_wp2_with fail
 refine HSUB.out.mono ?_
 rintro e w1 ⟨v1,rfl,hq1,hr⟩
 have HR:=LH (show w1.ownsRow w.heap.size 225 2 v1 ([(-x,l)].map ofC).length (rowS ([(-x,l)].map ofC)) from hr)
 obtain ⟨a,cap,rfl,-,-⟩:=World.ownsRow.form hr (by omega)
 clear hr
 go_wp2_with fail
 refine (HSG.out _ _ (hE.q hq1) ((hE.q hq1).places) (TSl.of_row HR.out)).mono ?_
 rintro e w2 ⟨rfl,hq2⟩
 have hQ2:=Q.trans hq1 hq2
 go_wp2
 go_ret2
 exact ⟨rfl,hQ2⟩
def ordS (X d:Nat) (a:Int):Int:=if a≤0 then 1 else if a.toNat*a.toNat*d<X then 1 else if a.toNat*a.toNat*d=X then 0 else -1
structure PTerm (x:Rat) (l:Nat):Prop where
 t:Term1 x l
 pos:0<x.num
 bx:Bd 20 x
 dx:x.den<10 ^ 8
 bl:l<10 ^ 16
theorem bd_int {a:Int} {n:Nat} (h:a.natAbs<10 ^ n) (hn:0<n):Bd n (a:Rat):=⟨by rw [Rat.num_intCast]; exact h,by rw [Rat.den_intCast]; exact Nat.one_lt_pow (by omega) (by decide)⟩
theorem term_int {a:Int} (h:a.natAbs<10 ^ 20) (h0:a≠0):Term1 (a:Rat) 1 :=
 ⟨(bd_int h (by decide)).rlim (by decide),fun e=>h0 (by exact_mod_cast e),by have:=longV_bd (bd_int h (by decide)) (by decide); omega,norm_one,(show Bd 40 ((1:Nat):Rat) from ⟨by decide,by decide⟩)⟩
theorem sq_eq_term {x:Rat} {l A:Nat} (hp:PTerm x l) (h:A*A*(x.den*x.den)=sqN x l):(A:Rat)=x∧1=l:=by
 have hn:0<x.num.natAbs:=by have:=hp.pos; omega
 have h1:x.num.natAbs*x.num.natAbs*l=(A*x.den)*(A*x.den):=by
  unfold sqN at h; rw [← h]; ac_rfl
 obtain ⟨t,ht,hl⟩:=dvd_of_sq hn h1
 have hl0:=hp.t.norm.1
 have ht0:0<t:=by
  rcases Nat.eq_zero_or_pos t with e | e
  ·rw [e] at hl; simp at hl; omega
  ·exact e
 have h2:=hp.t.norm.2
 rw [hl,normM_sq ht0] at h2
 have h3:t=1:=congrArg Prod.fst h2
 subst h3
 refine ⟨?_,hl.symm⟩
 rw [Nat.mul_one] at ht
 have e1:x.num=((A*x.den:Nat):Int):=by have:=hp.pos; omega
 have e2:=mul_den_num x
 rw [e1] at e2
 have e3:(x.den:Rat)≠0:=by
  have:=x.den_nz
  exact_mod_cast this
 have e4:x*(x.den:Rat)=(A:Rat)*(x.den:Rat):=by rw [e2,Rat.intCast_natCast,Rat.natCast_mul]
 grind
set_option maxRecDepth 100000 in
set_option maxHeartbeats 2000000 in
theorem enc_order (x:Rat) (l:Nat) (hp:PTerm x l) (a:Int) (ha:a.natAbs<10 ^ 8) (B:Nat) (v:Value) (w:World) (hE:Env w) (hv:Surd1 w B v x l) :
  Calls Tryz.prog 217 #[v,.string ⟨(Lib.itoa a).toArray⟩] w fun e w'=>e=.returned (.tuple #[.int .i64 (ordS (sqN x l) (x.den*x.den) a),.int .i64 0])∧Q w w':=by
 by_cases h0:a=0
 ·subst h0
  have hC:=fun w hw hv=>surd_Compare_nil x l hp.t hp.pos hp.bx hp.dx hp.bl B v w hw hv
  have HC:=LH hC
  have HV:=LH hv
  obtain ⟨g1,c1,rfl,-,-⟩:=World.ownsRow.form hv (by omega)
  rw [show ordS (sqN x l) (x.den*x.den) 0=1 from rfl,itoa_zero]
  clear hC hp hv ha
  go_enter Tryz.func217,Tryz.ntmps217
  have hQ0:=Q.refl w
  go_wp2_with fail
  refine (surd_Make_zero _ _ _ (hE.ofQ bt) (Blk.new w [.string ⟨#[48]⟩,.string ⟨#[49]⟩] 225)).mono ?_
  rintro e w1 ⟨rfl,hq1⟩
  have hs1:Q w w1:=Q.trans bt hq1
  have hQ1:Q w w1:=Q.trans hQ0 hs1
  go_wp2_with fail
  refine (HC.out _ (hE.q hQ1) (surd1_keep HV.out hQ1)).mono ?_
  rintro e w2 ⟨rfl,hq2⟩
  have hs2:Q w1 w2:=Q.trans bt hq2
  have hQ2:Q w w2:=Q.trans hQ1 hs2
  go_wp2
  go_ret2
  exact ⟨rfl,bt⟩
 ·have b8:Bd 8 (a:Rat):=bd_int ha (by decide)
  have b20:Bd 20 (a:Rat):=b8.mono (by decide)
  have ht:=term_int (a:=a) (Nat.lt_of_lt_of_le ha (by decide)) h0
  have hmk:∀ (b:Nat) (t:TypeId) (w:World),Env w→Blk w b [.string ⟨(Lib.itoa a).toArray⟩,.string ⟨#[49]⟩] t →
    Calls Tryz.prog 163 #[.slice (some ⟨b,0,none⟩) 1 1] w fun e w'=>∃ v',e=.returned (.tuple #[v',.int .i64 0])∧Q w w'∧Surd1 w' w.heap.size v' (a:Rat) 1:=fun b t w hw hb'=>by
   have h:=surd_Make_root (rest:=[]) (cap:=1) (a:Rat) 1 b20 (by decide) ht.ne ⟨by decide,by decide⟩ (by decide) b t w hw (by rw [rstr_one,rstr_int]; exact hb')
   have hn:=norm_parts norm_one
   rw [show ((1:Nat):Rat)=1 from rfl] at hn
   rw [hn.1,Rat.mul_one,lOf_left,hn.2] at h
   refine h.mono fun e w' he=>?_
   obtain ⟨hq,v,hv,hs⟩:=MakeEnd.good (l:=1) he (by have:=longV_bd b20 (by decide); omega) (by have:=longV_bd ht.c40 (by decide); omega)
   exact ⟨v,hv,hq,hs⟩
  have HMK:=LH hmk
  obtain ⟨σ,hσ,hr,hcmp⟩:∃ σ:Int,ordS (sqN x l) (x.den*x.den) a = -σ∧(σ=1∨σ=0∨σ = -1)∧∀ B1 v1 w,Env w→Surd1 w B1 v1 (a:Rat) 1→Surd1 w B v x l →
    Calls Tryz.prog 249 #[v1,v] w fun e w'=>e=.returned (.tuple #[.int .i64 σ,.int .i64 0])∧Q w w':=by
   by_cases hneg:a<0
   ·obtain ⟨e1,e2⟩:=neg_diff (x:=(a:Rat)) (y:=x) (l:=1) (m:=l) (by rw [Rat.num_intCast]; exact hneg) hp.pos (by decide) hp.t.norm.1 b20 hp.bx (by decide) hp.bl
    exact ⟨-1,by unfold ordS; rw [if_pos (by omega)]; rfl,.inr (.inr rfl),fun B1 v1 w hw h1 h2=>surd_Compare_sgn (a:Rat) x 1 l ht hp.t b20 hp.bx (by decide) hp.bl (-1) e1 e2 B1 B v1 v w hw h1 h2⟩
   ·obtain ⟨A,rfl⟩:=Int.eq_ofNat_of_zero_le (show 0≤a by omega)
    have hA0:0<A:=by omega
    have ed:((A:Int):Rat).den=1:=Rat.den_intCast _
    have en:((A:Int):Rat).num=A:=Rat.num_intCast _
    have eS:sqN ((A:Int):Rat) 1=A*A:=by unfold sqN; rw [en,Int.natAbs_natCast,Nat.mul_one]
    have cmp:=fun σ hσ B1 v1 w hw h1 h2=>surd_Compare_one ((A:Int):Rat) x 1 l ht hp.t (by rw [en]; omega) hp.pos b20 hp.bx (by decide) hp.bl (by rw [ed]; decide) hp.dx σ hσ B1 B v1 v w hw (Env.places hw) h1 h2
    simp only [eS,ed,Nat.mul_one] at cmp
    have eo:ordS (sqN x l) (x.den*x.den) (A:Int)=if A*A*(x.den*x.den)<sqN x l then 1 else if A*A*(x.den*x.den)=sqN x l then 0 else -1:=by
     unfold ordS; rw [if_neg (by omega),Int.toNat_natCast]
    rcases Nat.lt_trichotomy (A*A*(x.den*x.den)) (sqN x l) with h | h | h
    ·exact ⟨-1,by rw [eo,if_pos h]; rfl,.inr (.inr rfl),fun B1 v1 w hw h1 h2=>cmp (-1) (.inr ⟨by omega,by rw [if_neg (by omega)]⟩) B1 v1 w hw h1 h2⟩
    ·obtain ⟨q1,q2⟩:=sq_eq_term hp h
     exact ⟨0,by rw [eo,if_neg (by omega),if_pos h]; rfl,.inr (.inl rfl),fun B1 v1 w hw h1 h2=>cmp 0 (.inl ⟨by rw [Rat.intCast_natCast]; exact q1,q2,rfl⟩) B1 v1 w hw h1 h2⟩
    ·exact ⟨1,by rw [eo,if_neg (by omega),if_neg (by omega)],.inl rfl,fun B1 v1 w hw h1 h2=>cmp 1 (.inr ⟨by omega,by rw [if_pos h]⟩) B1 v1 w hw h1 h2⟩
  rw [hσ]
  have HC:=LH hcmp
  have HV:=LH hv
  obtain ⟨g1,c1,rfl,-,-⟩:=World.ownsRow.form hv (by omega)
  clear hσ hcmp hmk ht b8 b20 hp hv ha h0
  generalize Lib.itoa a=S at *
  rcases hr with rfl | rfl | rfl
  all_goals
   go_enter Tryz.func217,Tryz.ntmps217
   have hQ0:=Q.refl w
   go_wp2_with fail
   refine (HMK.out _ _ _ (hE.ofQ bt) (Blk.new w [.string ⟨S.toArray⟩,.string ⟨#[49]⟩] 225)).mono ?_
   rintro e w1 ⟨v1,rfl,hq1,h1⟩
   have hs1:Q w w1:=Q.trans bt hq1
   have hQ1:Q w w1:=Q.trans hQ0 hs1
   have H1:=LH h1
   obtain ⟨g2,c2,rfl,-,-⟩:=World.ownsRow.form h1 (by omega)
   clear h1
   go_wp2_with fail
   refine (HC.out _ _ _ (hE.q hQ1) H1.out (surd1_keep HV.out hQ1)).mono ?_
   rintro e w2 ⟨rfl,hq2⟩
   have hs2:Q w1 w2:=Q.trans bt hq2
   have hQ2:Q w w2:=Q.trans hQ1 hs2
   go_wp2
   go_ret2
   exact ⟨rfl,bt⟩
end
section
open Go.RowKit Kp
open Go.Lib (decDigits)
set_option maxHeartbeats 1000000 in
theorem enc_long (q:Rat) (h:Bd 20 q) (w:World) (hE:Env w) :
  Calls Tryz.prog 215 #[.string ⟨(rstr q).toArray⟩] w fun e w'=>e=.returned (.bool false)∧Q w w':=by
 have HP:=LH (fun w hw=>rational_Parts q (h.rlim (by decide)) w hw)
 obtain ⟨l1,l2⟩:=bd_lens h
 clear h
 generalize rstr q=S at *
 generalize Lib.itoa (q.den:Int)=D at *
 have HT:=LH (fun w=>lib_TrimMinus (Lib.itoa q.num) w)
 generalize unsig (Lib.itoa q.num)=U at *
 generalize Lib.itoa q.num=N at *
 have hm1:decide ((20:Int)<(U.length:Int))=false:=by rw [decide_eq_false_iff_not]; omega
 have hm2:decide ((20:Int)<(D.length:Int))=false:=by rw [decide_eq_false_iff_not]; omega
 go_enter Tryz.func215,Tryz.ntmps215
 have hQ0:=Q.refl w
 go_wp2_with fail
 refine (HP.out _ (hE.ofQ bt)).mono ?_
 rintro e w1 ⟨rfl,hq1⟩
 have hs1:Q w w1:=Q.trans bt hq1
 have hQ1:Q w w1:=Q.trans hQ0 hs1
 go_wp2_with fail
 refine (HT.out _).mono ?_
 rintro e w2 ⟨rfl,rfl⟩
 go_wp2
 go_ret
 exact ⟨rfl,hQ1⟩
set_option maxHeartbeats 1000000 in
theorem enc_check1 (x:Rat) (l:Str) (h:Bd 20 x) (w:World) (hE:Env w) :
  Calls Tryz.prog 214 #[.agg #[.string ⟨(rstr x).toArray⟩,.string ⟨l.toArray⟩]] w fun e w'=>e=.returned (.bool false)∧Q w w':=by
 have HL:=LH (fun w hw=>enc_long x h w hw)
 clear h
 generalize rstr x=X at *
 go_enter Tryz.func214,Tryz.ntmps214
 have hQ0:=Q.refl w
 go_wp2_with fail
 refine (HL.out _ (hE.ofQ bt)).mono ?_
 rintro e w1 ⟨rfl,hq1⟩
 have hs1:Q w w1:=Q.trans bt hq1
 have hQ1:Q w w1:=Q.trans hQ0 hs1
 go_wp2
 go_ret
 exact ⟨rfl,bt⟩
set_option maxRecDepth 100000 in
set_option maxHeartbeats 1000000 in
theorem index_terms (x:Rat) (l:Nat) (h:Bd 20 x) (B:Nat) (v:Value) (w:World) (hE:Env w) (hv:Surd1 w B v x l) :
  Calls Tryz.prog 237 #[v,.func (.func 214) #[] #[]] w fun e w'=>e=.returned (.int .i64 (-1))∧Q w w':=by
 have HC:=LH (fun w hw=>enc_check1 x (Lib.itoa (l:Int)) h w hw)
 have HV:=LH hv
 obtain ⟨g1,c1,rfl,-,-⟩:=World.ownsRow.form hv (by omega)
 clear hv h
 go_enter Tryz.func237,Tryz.ntmps237
 go_wp2
 go_loopw [8] (fun i wr=>(i=.int .i64 0∨i=.int .i64 1)∧Q w wr) (fun i _=>1 - (intOf i).toNat)
 case atStart=>exact ⟨.inl rfl,Below.refl _ _⟩
 case round =>
  obtain ⟨rfl | rfl,hQ⟩:=hrel
  ·have hr:=ownsRow_keep HV.out hQ
   have c0:=hr.cellAt 0 (by omega)
   have c1:=hr.cellAt 1 (by omega)
   simp only [zs4,zs5] at c0 c1
   go_wp2_with fail
   refine (HC.out _ (hE.ofQ bt)).mono ?_
   rintro e w2 ⟨rfl,hq2⟩
   have hQ2:Q w w2:=Q.trans hQ hq2
   go_wp2
   go_roundw
   case rel=>exact ⟨.inr rfl,hQ2⟩
   case measure=>simp [intOf]
  ·go_wp2
   go_ret
   exact ⟨rfl,hQ⟩
set_option maxHeartbeats 1000000 in
theorem contains_terms (x:Rat) (l:Nat) (h:Bd 20 x) (B:Nat) (v:Value) (w:World) (hE:Env w) (hv:Surd1 w B v x l) :
  Calls Tryz.prog 201 #[v,.func (.func 214) #[] #[]] w fun e w'=>e=.returned (.bool false)∧Q w w':=by
 have HI:=LH (index_terms x l h B v w hE hv)
 obtain ⟨g1,c1,rfl,-,-⟩:=World.ownsRow.form hv (by omega)
 clear hv h
 go_enter Tryz.func201,Tryz.ntmps201
 go_wp2_with fail
 refine HI.out.mono ?_
 rintro e w1 ⟨rfl,hq1⟩
 go_wp2
 go_ret
 exact ⟨rfl,hq1⟩
set_option maxHeartbeats 1000000 in
theorem enc_checkSurd (x:Rat) (l:Nat) (hp:PTerm x l) (B:Nat) (v:Value) (w:World) (hE:Env w) (hv:Surd1 w B v x l) :
  Calls Tryz.prog 164 #[v] w fun e w'=>e=.returned (.int .i64 0)∧Q w w':=by
 have HC:=LH (fun w hw hv=>surd_Check_one x l hp.t B v w hw hv)
 have HF:=LH (fun w hw hv=>contains_terms x l hp.bx B v w hw hv)
 have HV:=LH hv
 obtain ⟨g1,c1,rfl,-,-⟩:=World.ownsRow.form hv (by omega)
 clear hv hp
 go_enter Tryz.func164,Tryz.ntmps164
 have hQ0:=Q.refl w
 go_wp2_with fail
 refine (HC.out _ hE HV.out).mono ?_
 rintro e w1 ⟨rfl,hq1⟩
 have hs1:Q w w1:=Q.trans bt hq1
 have hQ1:Q w w1:=Q.trans hQ0 hs1
 go_wp2_with fail
 refine (HF.out _ (hE.q hQ1) (surd1_keep HV.out hQ1)).mono ?_
 rintro e w2 ⟨rfl,hq2⟩
 have hs2:Q w1 w2:=Q.trans bt hq2
 have hQ2:Q w w2:=Q.trans hQ1 hs2
 go_wp2
 go_ret
 exact ⟨rfl,bt⟩
theorem milli_num:(1 / 1000:Rat).num=1:=by kernel_rfl
theorem milli_den:(1 / 1000:Rat).den=1000:=by kernel_rfl
theorem milli_nonneg:(0:Rat)≤1 / 1000:=Rat.num_nonneg.1 (by rw [milli_num]; decide)
theorem rstr_milli:rstr (1 / 1000)=[49,47,49,48,48,48]:=by
 unfold rstr
 rw [milli_num,milli_den]
 simp [Lib.itoa,Lib.decDigits]
def mill (x:Rat) (l:Nat):Nat:=unitsN (x*x*(l:Rat)) (1 / 1000)
def flo (x:Rat) (l:Nat):Nat:=mill x l / 1000
theorem mill_is (x:Rat) (l:Nat):mill x l=isqrt (((x*x*(l:Rat)).num.toNat*(1000*1000)) / ((x*x*(l:Rat)).den*(1*1))):=by
 unfold mill unitsN
 rw [milli_num,milli_den]; rfl
theorem cross_nat {x:Rat} {l:Nat}:(x*x*(l:Rat)).num.toNat*(x.den*x.den)=sqN x l*(x*x*(l:Rat)).den:=by
 have h1:=sqN_is x l
 have h2:=mul_den_num (x*x*(l:Rat))
 have hp:0≤x*x*(l:Rat):=Rat.mul_nonneg (sq_nonneg x) (by exact_mod_cast Nat.zero_le l)
 have hn:0≤(x*x*(l:Rat)).num:=Rat.num_nonneg.2 hp
 have h3:(((x*x*(l:Rat)).num.toNat:Nat):Rat)=((x*x*(l:Rat)).num:Rat):=by
  rw [← Rat.intCast_natCast]; congr 1; omega
 generalize x*x*(l:Rat)=q at *
 have h4:((q.num.toNat:Nat):Rat)*((x.den:Rat)*(x.den:Rat))=((sqN x l:Nat):Rat)*(q.den:Rat):=by
  rw [h3,← h2,h1]; grind
 rw [← Rat.natCast_mul,← Rat.natCast_mul,← Rat.natCast_mul] at h4
 exact_mod_cast h4
theorem flo_is (x:Rat) (l:Nat):FloorIs (flo x l) (sqN x l) (x.den*x.den):=by
 unfold flo
 rw [mill_is]
 exact floor_is (x*x*(l:Rat)).den_pos (Nat.mul_pos x.den_pos x.den_pos) cross_nat
theorem mill_lt {x:Rat} {l:Nat} (h:sqN x l<10 ^ 8*(x.den*x.den)):mill x l<10 ^ 7:=by
 rw [mill_is]
 simp only [Nat.mul_one]
 have hc:=cross_nat (x:=x) (l:=l)
 have hD:=(x*x*(l:Rat)).den_pos
 generalize (x*x*(l:Rat)).num.toNat=N at *
 generalize (x*x*(l:Rat)).den=D at *
 have hd:0<x.den*x.den:=Nat.mul_pos x.den_pos x.den_pos
 generalize x.den*x.den=dd at *
 have h1:N*dd<10 ^ 8*D*dd:=by
  rw [hc]
  have:=Nat.mul_lt_mul_of_pos_right h hD
  have e:10 ^ 8*dd*D=10 ^ 8*D*dd:=by ac_rfl
  rw [e] at this; exact this
 have h2:N<10 ^ 8*D:=Nat.lt_of_mul_lt_mul_right h1
 refine isqrt_lt ?_
 rw [Nat.div_lt_iff_lt_mul hD]
 have:N*(1000*1000)<10 ^ 8*D*(1000*1000):=Nat.mul_lt_mul_of_pos_right h2 (by decide)
 have e:10 ^ 7*10 ^ 7*D=10 ^ 8*D*(1000*1000):=by
  rw [show (10:Nat) ^ 7*10 ^ 7=10 ^ 8*(1000*1000) by decide]; ac_rfl
 omega
theorem milli_mul (K:Nat):(K:Rat)*(1 / 1000)=Rat.divInt (K:Int) ((1000:Nat):Int):=by
 rw [Rat.divInt_eq_div,Rat.intCast_natCast,Rat.intCast_natCast]
 have:((1000:Nat):Rat)=1000:=rfl
 rw [this]; grind
theorem milli_div (K:Nat):((K:Rat)*(1 / 1000)).num.toNat / ((K:Rat)*(1 / 1000)).den=K / 1000:=by
 have h2:=mul_den_num ((K:Rat)*(1 / 1000))
 have hp:0≤(K:Rat)*(1 / 1000):=Rat.mul_nonneg (by exact_mod_cast Nat.zero_le K) milli_nonneg
 have hn:=Rat.num_nonneg.2 hp
 have h3:((((K:Rat)*(1 / 1000)).num.toNat:Nat):Rat)=(((K:Rat)*(1 / 1000)).num:Rat):=by
  rw [← Rat.intCast_natCast]; congr 1; omega
 have hd:=((K:Rat)*(1 / 1000)).den_pos
 generalize hq:(K:Rat)*(1 / 1000)=q at *
 refine div_of (by decide) hd ?_
 have h4:((q.num.toNat:Nat):Rat)*((1000:Nat):Rat)=(K:Rat)*(q.den:Rat):=by
  rw [h3,← h2,← hq]
  have:((1000:Nat):Rat)=1000:=rfl
  rw [this]; grind
 rw [← Rat.natCast_mul,← Rat.natCast_mul] at h4
 exact_mod_cast h4
set_option maxRecDepth 100000 in
set_option maxHeartbeats 1000000 in
theorem enc_term (x:Rat) (l:Nat) (hp:PTerm x l) (hV:sqN x l<10 ^ 8*(x.den*x.den)) (w:World) (hE:Env w) :
  Calls Tryz.prog 246 #[.agg #[.string ⟨(rstr x).toArray⟩,.string ⟨(Lib.itoa (l:Int)).toArray⟩],.string ⟨(rstr (1 / 1000)).toArray⟩] w fun e w'=>e=.returned (.tuple #[.string ⟨(rstr ((mill x l:Rat)*(1 / 1000))).toArray⟩,.int .i64 0])∧Q w w':=by
 have blq:Bd 16 (l:Rat):=⟨by rw [Rat.num_natCast,Int.natAbs_natCast]; exact hp.bl,by rw [Rat.den_natCast]; exact by decide⟩
 have HM1:=LH (fun w hw=>rational_Mul_bd x x hp.bx hp.bx (by decide) w hw)
 have hm2:=fun w hw=>rational_Mul_bd (x*x) (l:Rat) (hp.bx.mul hp.bx) blq (by decide) w hw
 rw [rstr_nat] at hm2
 have HM2:=LH hm2
 have hk:=mill_lt hV
 have bq:Bd 56 (x*x*(l:Rat)):=(hp.bx.mul hp.bx).mul blq
 have q0:0≤(x*x*(l:Rat)).num:=Rat.num_nonneg.2 (Rat.mul_nonneg (sq_nonneg x) (by exact_mod_cast Nat.zero_le l))
 have HF:=LH (fun w hw=>root_Floor (x*x*(l:Rat)) (1 / 1000) (bq.mono (by decide)) (show Bd 10 (1 / 1000) from ⟨by rw [milli_num]; decide,by rw [milli_den]; decide⟩) q0 (by rw [milli_num]; decide)
  ⟨by rw [Rat.num_natCast,Int.natAbs_natCast]; exact Nat.lt_of_lt_of_le hk (by decide),by rw [Rat.den_natCast]; exact by decide⟩ w hw)
 have eK:unitsN (x*x*(l:Rat)) (1 / 1000)=mill x l:=rfl
 rw [eK] at HF
 have hne:rstr x≠[]:=fun e=>by
  have h1:=rstr_head x
  have:=hp.pos
  unfold rstr at e
  split at e
  ·exact itoa_ne _ e
  ·simp at e
 have hlen:0<(rstr x).length:=List.length_pos_iff.2 hne
 have hat:(((at0 (rstr x) 0).toNat:Int) == 45)=false:=by
  refine ne45 (fun e=>?_)
  have h1:=head_at0 hne
  rw [e] at h1
  have:=(rstr_head x).1 h1
  have:=hp.pos
  omega
 have hat':=bne_of_f hat
 clear hm2 hp hV blq hk bq q0 eK hne
 generalize rstr ((mill x l:Rat)*(1 / 1000))=R at *
 generalize rstr (x*x*(l:Rat))=P2 at *
 generalize rstr (x*x)=P1 at *
 generalize rstr (1 / 1000)=U at *
 generalize rstr x=X at *
 generalize Lib.itoa (l:Int)=L at *
 go_enter Tryz.func246,Tryz.ntmps246
 have hQ0:=Q.refl w
 go_wp2_with fail
 refine (HM1.out _ (hE.ofQ bt)).mono ?_
 rintro e w1 ⟨rfl,hq1⟩
 have hs1:Q w w1:=Q.trans bt hq1
 have hQ1:Q w w1:=Q.trans hQ0 hs1
 have T:=(Blk.new w [.string ⟨X.toArray⟩,.string ⟨L.toArray⟩] 225).keep hq1 (by simp)
 replace t0:=T.cell 0
 replace t1:=T.cell 1
 simp only [zs4,zs5] at t0 t1
 replace lT:=T.lt
 go_wp2_with fail
 refine (HM2.out _ (hE.ofQ bt)).mono ?_
 rintro e w2 ⟨rfl,hq2⟩
 have hs2:Q w1 w2:=Q.trans bt hq2
 have hQ2:Q w w2:=Q.trans hQ1 hs2
 replace T:=T.keep hs2 T.lt
 replace t0:=T.cell 0
 replace t1:=T.cell 1
 simp only [zs4,zs5] at t0 t1
 replace lT:=T.lt
 go_wp2_with fail
 refine (HF.out _ (hE.ofQ bt)).mono ?_
 rintro e w3 ⟨rfl,hq3⟩
 have hs3:Q w2 w3:=Q.trans bt hq3
 have hQ3:Q w w3:=Q.trans hQ2 hs3
 replace T:=T.keep hs3 T.lt
 replace t0:=T.cell 0
 replace t1:=T.cell 1
 simp only [zs4,zs5] at t0 t1
 replace lT:=T.lt
 go_wp2
 go_ret2
 exact ⟨rfl,bt⟩
set_option maxRecDepth 100000 in
set_option maxHeartbeats 1000000 in
theorem enc_floor (K:Nat) (hK:K<10 ^ 7) (w:World) (hE:Env w) :
  Calls Tryz.prog 247 #[.string ⟨(rstr ((K:Rat)*(1 / 1000))).toArray⟩,.string ⟨#[49]⟩] w fun e w'=>e=.returned (.tuple #[.string ⟨(Lib.itoa ((K / 1000:Nat):Int)).toArray⟩,.int .i64 0])∧Q w w':=by
 have b8:Bd 8 ((K:Rat)*(1 / 1000)):=by
  rw [milli_mul]
  exact bd_divInt (by decide) (by rw [Int.natAbs_natCast]; exact Nat.lt_of_lt_of_le hK (by decide)) (by decide)
 have s8:Small8 ((K:Rat)*(1 / 1000)):=b8
 have n0:0≤((K:Rat)*(1 / 1000)).num:=Rat.num_nonneg.2 (Rat.mul_nonneg (by exact_mod_cast Nat.zero_le K) milli_nonneg)
 have hd:=fun w hw=>rational_Div_bd ((K:Rat)*(1 / 1000)) 1 b8 bd_one (by decide) (by decide) w hw
 rw [rstr_one,show (K:Rat)*(1 / 1000) / 1=(K:Rat)*(1 / 1000) by grind] at hd
 have HD:=LH hd
 have hf:=fun w hw=>rational_Floor_small _ s8 n0 w hw
 rw [milli_div] at hf
 have HF:=LH hf
 have hm:=fun w hw=>rational_Mul_bd ((K / 1000:Nat):Rat) 1 (show Bd 8 ((K / 1000:Nat):Rat) from ⟨by rw [Rat.num_natCast,Int.natAbs_natCast]; exact Nat.lt_of_le_of_lt (Nat.div_le_self _ _) (Nat.lt_of_lt_of_le hK (by decide)),by rw [Rat.den_natCast]; exact by decide⟩) bd_one (by decide) w hw
 rw [Rat.mul_one,rstr_nat,rstr_one] at hm
 have HM:=LH hm
 clear b8 s8 n0 hd hf hm hK
 generalize rstr ((K:Rat)*(1 / 1000))=X at *
 generalize Lib.itoa ((K / 1000:Nat):Int)=F at *
 go_enter Tryz.func247,Tryz.ntmps247
 have hQ0:=Q.refl w
 go_wp2_with fail
 refine (HD.out _ (hE.ofQ bt)).mono ?_
 rintro e w1 ⟨rfl,hq1⟩
 have hs1:Q w w1:=Q.trans bt hq1
 have hQ1:Q w w1:=Q.trans hQ0 hs1
 go_wp2_with fail
 refine (HF.out _ (hE.ofQ bt)).mono ?_
 rintro e w2 ⟨rfl,hq2⟩
 have hs2:Q w1 w2:=Q.trans bt hq2
 have hQ2:Q w w2:=Q.trans hQ1 hs2
 go_wp2_with fail
 refine (HM.out _ (hE.ofQ bt)).mono ?_
 rintro e w3 ⟨rfl,hq3⟩
 have hs3:Q w2 w3:=Q.trans bt hq3
 have hQ3:Q w w3:=Q.trans hQ2 hs3
 go_wp2
 go_ret2
 exact ⟨rfl,bt⟩
set_option maxRecDepth 100000 in
set_option maxHeartbeats 1000000 in
theorem enc_near (x:Rat) (l:Nat) (hp:PTerm x l) (hV:sqN x l<10 ^ 8*(x.den*x.den)) (B:Nat) (v:Value) (w:World) (hE:Env w) (hv:Surd1 w B v x l) :
  Calls Tryz.prog 216 #[v,.string ⟨#[49]⟩] w fun e w'=>e=.returned (.tuple #[.string ⟨(Lib.itoa ((flo x l:Int) - 1)).toArray⟩,.int .i64 0])∧Q w w':=by
 have hm:=fun w hw=>rational_Mul_bd 1 (1 / 1000) bd_one (show Bd 10 (1 / 1000) from ⟨by rw [milli_num]; decide,by rw [milli_den]; decide⟩) (by decide) w hw
 rw [rstr_one,Rat.one_mul] at hm
 have ht:=fun w hw=>enc_term x l hp hV w hw
 have hk:=mill_lt hV
 have b8:Bd 8 ((mill x l:Rat)*(1 / 1000)):=by
  rw [milli_mul]
  exact bd_divInt (by decide) (by rw [Int.natAbs_natCast]; exact Nat.lt_of_lt_of_le hk (by decide)) (by decide)
 have ha:=fun w hw=>rational_Add_bd 0 ((mill x l:Rat)*(1 / 1000)) (show Bd 1 0 from ⟨by decide,by decide⟩) b8 (by decide) w hw
 rw [rstr_zero,Rat.zero_add] at ha
 have hf:=fun w hw=>enc_floor (mill x l) hk w hw
 have eF:mill x l / 1000=flo x l:=rfl
 rw [eF] at hf
 have bF:Bd 8 ((flo x l:Nat):Rat):=⟨by rw [Rat.num_natCast,Int.natAbs_natCast]; exact Nat.lt_of_le_of_lt (Nat.div_le_self _ _) (Nat.lt_of_lt_of_le hk (by decide)),by rw [Rat.den_natCast]; exact by decide⟩
 have hs:=fun w hw=>rational_Sub_bd ((flo x l:Nat):Rat) 1 bF bd_one (by decide) w hw
 have eI:((flo x l:Nat):Rat) - 1=(((flo x l:Int) - 1:Int):Rat):=by rw [Rat.intCast_sub,Rat.intCast_natCast]; rfl
 rw [rstr_nat,rstr_one,eI,rstr_int] at hs
 rw [rstr_milli] at hm ht
 have HM:=LH hm
 have HT:=LH ht
 have HA:=LH ha
 have HF:=LH hf
 have HS:=LH hs
 have HV:=LH hv
 obtain ⟨g1,c1,rfl,-,-⟩:=World.ownsRow.form hv (by omega)
 clear hm ht ha hf hs hv hp hV hk b8 eF bF eI
 unfold Surd1 at HV
 generalize Lib.itoa ((flo x l:Int) - 1)=R at *
 generalize Lib.itoa (flo x l:Int)=F at *
 generalize rstr ((mill x l:Rat)*(1 / 1000))=K at *
 generalize rstr x=X at *
 generalize Lib.itoa (l:Int)=L at *
 go_enter Tryz.func216,Tryz.ntmps216
 have hQ0:=Q.refl w
 go_wp2_with fail
 refine (HM.out _ (hE.ofQ bt)).mono ?_
 rintro e w1 ⟨rfl,hq1⟩
 have hs1:Q w w1:=Q.trans bt hq1
 have hQ1:Q w w1:=Q.trans hQ0 hs1
 go_wp2
 go_loopw [8,24] (fun s i wr=>Q w wr∧((i=.int .i64 0∧s=.string ⟨#[48]⟩)∨(i=.int .i64 1∧s=.string ⟨K.toArray⟩))) (fun _ i _=>1 - (intOf i).toNat)
 case atStart=>exact ⟨hQ1,.inl ⟨rfl,rfl⟩⟩
 case round =>
  obtain ⟨hQ,⟨rfl,rfl⟩ | ⟨rfl,rfl⟩⟩:=hrel
  ·have hr:=ownsRow_keep HV.out hQ
   have c0:=hr.cellAt 0 (by omega)
   have c1:=hr.cellAt 1 (by omega)
   simp only [zs4,zs5] at c0 c1
   go_wp2_with fail
   refine (HT.out _ (hE.ofQ bt)).mono ?_
   rintro e w2 ⟨rfl,hq2⟩
   have hQ2:Q w w2:=Q.trans bt hq2
   clear c0 c1
   go_wp2_with fail
   refine (HA.out _ (hE.ofQ bt)).mono ?_
   rintro e w3 ⟨rfl,hq3⟩
   have hQ3:Q w w3:=Q.trans hQ2 hq3
   go_wp2
   go_roundw
   case rel=>exact ⟨hQ3,.inr ⟨rfl,rfl⟩⟩
   case measure=>simp [intOf]
  ·go_wp2_with fail
   refine (HF.out _ (hE.ofQ bt)).mono ?_
   rintro e w2 ⟨rfl,hq2⟩
   have hQ2:Q w w2:=Q.trans hQ hq2
   go_wp2_with fail
   refine (HS.out _ (hE.ofQ bt)).mono ?_
   rintro e w3 ⟨rfl,hq3⟩
   have hQ3:Q w w3:=Q.trans hQ2 hq3
   go_wp2
   go_ret2
   exact ⟨rfl,hQ3⟩
end
end Go.Proofs.YtohlpeicpoaanaaGreatDoor
