/-
  Adding two numbers of which the sum is too long.; surd.Make at terms of any numbers: what is too long.
-/
import Derived.Test.YtagkadlaeeoblaaGreatDoorBMSD
import Derived.Test.YtagkadlaeeoblaaGreatDoorBMSU2
set_option maxRecDepth 100000
set_option maxHeartbeats 1000000
namespace Go.Proofs.YtagkadlaeeoblaaGreatDoor
section
open Go.RowKit Kp
attribute [local go_sem] Oper.semAt_some
theorem zfl(a b c d : Int)(ha : lim a = false)(hb : lim b = false)(hc : lim c = false)(hd : lim d = false)(h : lim (a * d) = true ∨ lim (c * b) = true)(w : World)(hE : Env w) :
    Calls Tryz.prog 101 #[.agg #[.string ⟨(Lib.itoa a).toArray⟩, .string ⟨(Lib.itoa b).toArray⟩], .agg #[.string ⟨(Lib.itoa c).toArray⟩, .string ⟨(Lib.itoa d).toArray⟩]] w fun e w' => (∃ u v, e = .returned (.tuple #[.string u, .string v, .int .i64 4])) ∧ Q w w' := by
  have M1 := LH (fun w hw => zak a d ha hd w hw)
  have M2 := LH (fun w hw => zak c b hc hb w hw)
  cases h1 : lim (a * d)with
  | true =>
    rw[zg4 h1]at M1
    clear ha hb hc hd h1 h M2
    generalize Lib.itoa a = A at *
    generalize Lib.itoa b = B at *
    generalize Lib.itoa c = C at *
    generalize Lib.itoa d = D at *
    go_enter Tryz.func101, Tryz.ntmps101
    go_wp2_with fail
    refine cx (M1.out _ (hE.q bt)) fun w1 hq1 => ?_
    have hQ1 : Q w w1 := Q.trans (show Below w.heap.size w _ from bt) hq1
    go_wp2
    go_ret3
    exact⟨⟨_, _, rfl⟩, hQ1⟩
  | false =>
    have h2 : lim (c * b) = true := by rcases h with h | h; · rw [h1] at h; cases h
                                       exact h
    rw[zbx h1]at M1
    rw[zg4 h2]at M2
    clear ha hb hc hd h1 h2 h
    generalize Lib.itoa (a * d) = X at *
    generalize Lib.itoa a = A at *
    generalize Lib.itoa b = B at *
    generalize Lib.itoa c = C at *
    generalize Lib.itoa d = D at *
    go_enter Tryz.func101, Tryz.ntmps101
    go_wp2_with fail
    refine cx (M1.out _ (hE.q bt)) fun w1 hq1 => ?_
    have B1 := ((Blk.new w [.string ⟨A.toArray⟩, .string ⟨B.toArray⟩] 119).alloc (.cells #[.string ⟨C.toArray⟩, .string ⟨D.toArray⟩] 119)).keep hq1 (by simp;omega)
    have B2 := (Blk.new (w.alloc (.cells #[.string ⟨A.toArray⟩, .string ⟨B.toArray⟩] 119)) [.string ⟨C.toArray⟩, .string ⟨D.toArray⟩] 119).keep hq1 (by simp)
    rw[World.size_alloc]at B2
    have hQ1 : Q w w1 := Q.trans (show Below w.heap.size w _ from bt) hq1
    have c0 := B1.cell
    have d0 := B2.cell
    go_wp2_with fail
    refine cx (M2.out _ (hE.q hQ1)) fun w2 hq2 => ?_
    have hQ2 := Q.trans hQ1 hq2
    clear M1 M2 c0 d0
    go_wp2
    go_ret3
    exact⟨⟨_, _, rfl⟩, hQ2⟩
def zj9(x y:Rat):Bool:=lim (x.num*y.den) || lim (y.num*(x.den:Int)) || lim (x.num*y.den+y.num*x.den) || lim ((x.den:Int)*y.den)
theorem zdB(a b c d : Int)(ha : lim a = false)(hb : lim b = false)(hc : lim c = false)(hd : lim d = false)(h : (lim (a * d) || lim (c * b) || lim (a * d + c * b) || lim (b * d)) = true)(w : World)(hE : Env w)
    (p : Nat)(hpc : w.cell? ⟨p, 0, none⟩ = some (.func (.func 104) #[] #[]))(_hp : p < w.heap.size) :
    CR 219 #[.agg #[.string ⟨(Lib.itoa a).toArray⟩, .string ⟨(Lib.itoa b).toArray⟩], .agg #[.string ⟨(Lib.itoa c).toArray⟩, .string ⟨(Lib.itoa d).toArray⟩], .pointer (some ⟨p, 0, none⟩)] w (.tuple #[.string ⟨#[]⟩, .int .i64 4]) := by
  have M3 := LH (fun w hw => zak b d hb hd w hw)
  by_cases hx : lim (a * d) = true ∨ lim (c * b) = true
  · have M1 := LH (fun w hw => zfl a b c d ha hb hc hd hx w hw)
    clear ha hb hc hd hx h M3
    generalize Lib.itoa a = A at *
    generalize Lib.itoa b = B at *
    generalize Lib.itoa c = C at *
    generalize Lib.itoa d = D at *
    go_enter Tryz.func219, Tryz.ntmps219
    go_wp2_with fail
    refine(M1.out _ (hE.q bt)).mono ?_
    rintro e w1⟨⟨u, v, rfl⟩, hq1⟩
    have hQ1 : Q w w1 := Q.trans (show Below w.heap.size w _ from bt) hq1
    go_wp2
    go_ret2
    exact⟨rfl, hQ1⟩
  · have h1 : lim (a * d) = false := by cases hh : lim (a * d); · rfl
                                        exact absurd (.inl hh) hx
    have h2 : lim (c * b) = false := by cases hh : lim (c * b); · rfl
                                        exact absurd (.inr hh) hx
    have M1 := LH (fun w hw => zby a b c d ha hb hc hd h1 h2 w hw)
    have M2 := LH (fun w hw => zbu (a * d) (c * b) h1 h2 w hw)
    rw[h1, h2, Bool.false_or, Bool.false_or]at h
    cases h3 : lim (a * d + c * b)with
    | true =>
      rw[zg4 h3]at M2
      clear ha hb hc hd h1 h2 h3 h hx M3
      generalize Lib.itoa (a * d) = X at *
      generalize Lib.itoa (c * b) = Y at *
      generalize Lib.itoa a = A at *
      generalize Lib.itoa b = B at *
      generalize Lib.itoa c = C at *
      generalize Lib.itoa d = D at *
      go_enter Tryz.func219, Tryz.ntmps219
      go_wp2_with fail
      refine cx (M1.out _ (hE.q bt)) fun w1 hq1 => ?_
      have hQ1 : Q w w1 := Q.trans (show Below w.heap.size w _ from bt) hq1
      have pc1 := za hQ1 hpc
      go_wp2_with fail
      refine cx (M2.out _ (hE.q hQ1)) fun w2 hq2 => ?_
      have hQ2 := Q.trans hQ1 hq2
      go_wp2
      go_ret2
      exact⟨rfl, hQ2⟩
    | false =>
      rw[h3, Bool.false_or]at h
      rw[zbx h3]at M2
      rw[zg4 h]at M3
      clear ha hb hc hd h1 h2 h3 h hx
      generalize Lib.itoa (a * d + c * b) = Z at *
      generalize Lib.itoa (a * d) = X at *
      generalize Lib.itoa (c * b) = Y at *
      generalize Lib.itoa a = A at *
      generalize Lib.itoa b = B at *
      generalize Lib.itoa c = C at *
      generalize Lib.itoa d = D at *
      go_enter Tryz.func219, Tryz.ntmps219
      go_wp2_with fail
      refine cx (M1.out _ (hE.q bt)) fun w1 hq1 => ?_
      have B1 := ((Blk.new w [.string ⟨A.toArray⟩, .string ⟨B.toArray⟩] 119).alloc (.cells #[.string ⟨C.toArray⟩, .string ⟨D.toArray⟩] 119)).keep hq1 (by simp;omega)
      have B2 := (Blk.new (w.alloc (.cells #[.string ⟨A.toArray⟩, .string ⟨B.toArray⟩] 119)) [.string ⟨C.toArray⟩, .string ⟨D.toArray⟩] 119).keep hq1 (by simp)
      rw[World.size_alloc]at B2
      have hQ1 : Q w w1 := Q.trans (show Below w.heap.size w _ from bt) hq1
      have pc1 := za hQ1 hpc
      go_wp2_with fail
      refine cx (M2.out _ (hE.q hQ1)) fun w2 hq2 => ?_
      have hQ2 := Q.trans hQ1 hq2
      have C1 := B1.keep hq2 B1.lt
      have C2 := B2.keep hq2 B2.lt
      have c0 := C1.cell
      have d0 := C2.cell
      clear pc1 M1 M2
      go_wp2_with fail
      refine cx (M3.out _ (hE.q hQ2)) fun w3 hq3 => ?_
      have hQ3 := Q.trans hQ2 hq3
      clear c0 d0 M3
      go_wp2
      go_ret2
      exact⟨rfl, hQ3⟩
theorem zh6(x y:Rat)(hx:zaj x=false)(hy:zaj y=false)(h:zj9 x y=true)(w:World)(hE:Env w) :
  CR 84 #[.string ⟨(zh x).toArray⟩,.string ⟨(zh y).toArray⟩] w (.tuple #[.string ⟨#[]⟩,.int .i64 4]):=by
 have hs:¬ (zS x∧zS y):=by
  rintro⟨a,b⟩
  have hb:∀ q:Rat,zS q→Bd 8 q:=fun q hq=>⟨by have:=hq.1;omega,by have:=hq.2;omega⟩
  have hxb:=hb x a
  have hyb:=hb y b
  unfold zj9 at h
  rw[zay (zcm hxb hyb) (by decide),zay (zcm hyb hxb) (by decide),zay (sum_lt hxb hyb).1 (by decide),zay (n:=16) (by rw[← Int.natCast_mul,Int.natAbs_natCast];exact zbS hxb hyb) (by decide)]at h
  cases h
 have HQ:=LH (fun w=>zaK (zh x) (zh y) (.func (.func 155) #[] #[]) (by have:=zaP hx;omega) (by have:=zaP hy;omega) (zbt hs) w)
 have HF:=fun w' hw' p hp hpc=>zdB x.num (x.den:Int) y.num (y.den:Int) (zw hx).1 (zw hx).2 (zw hy).1 (zw hy).2 h w' hw' p hpc hp
 have HB:=LH (fun w (hw:Env w) p (hp:p<w.heap.size) (hpc:w.cell? ⟨p,0,none⟩=some (.func (.func 104) #[] #[]))=>zce x y hx hy p _ _ w hw (fun w' hq=>HF w' (hw.q hq) p (Nat.lt_of_lt_of_le hp hq.size) (za hq hpc)))
 have HC:=LH (fun w=>zbW 104 w)
 clear HF hs hx hy h
 go_enter Tryz.func84,Tryz.ntmps84
 go_wp2_with fail
 refine cx (HQ.out _) fun w1 hq1=>?_
 go_wp2_with fail
 refine(HC.out _).mono ?_
 rintro e w2⟨rfl,hq2,hp,hpc⟩
 have hQ2:=Q.trans hq1 hq2
 go_wp2_with fail
 refine cx (HB.out _ (hE.q hQ2) _ hp hpc) fun w3 hq3=>?_
 have hQ3:=Q.trans hQ2 hq3
 go_wp2
 go_ret2
 exact⟨rfl,hQ3⟩
def mulL(x y:Rat):Bool:=lim (x.num*y.num) || lim ((x.den:Int)*y.den)
theorem zhb(a b c d:Int)(ha:lim a=false)(hb:lim b=false)(hc:lim c=false)(hd:lim d=false)(h:(lim (a*c) || lim (b*d))=true)(w:World)(hE:Env w) :
  CR 61 #[.agg #[.string ⟨(Lib.itoa a).toArray⟩,.string ⟨(Lib.itoa b).toArray⟩],.agg #[.string ⟨(Lib.itoa c).toArray⟩,.string ⟨(Lib.itoa d).toArray⟩]] w (.tuple #[.string ⟨#[]⟩,.int .i64 4]):=by
 have M1:=LH (fun w hw=>zak a c ha hc w hw)
 have M2:=LH (fun w hw=>zak b d hb hd w hw)
 cases h1:lim (a*c)with
 | true =>
  rw[zg4 h1]at M1
  clear ha hb hc hd h1 h M2
  generalize Lib.itoa a=A at *
  generalize Lib.itoa b=B at *
  generalize Lib.itoa c=C at *
  generalize Lib.itoa d=D at *
  go_enter Tryz.func61,Tryz.ntmps61
  go_wp2_with fail
  refine cx (M1.out _ (hE.q bt)) fun w1 hq1=>?_
  have hQ1:Q w w1:=Q.trans (show Below w.heap.size w _ from bt) hq1
  go_wp2
  go_ret2
  exact⟨rfl,hQ1⟩
 | false =>
  rw[h1,Bool.false_or]at h
  rw[zbx h1]at M1
  rw[zg4 h]at M2
  clear ha hb hc hd h1 h
  generalize Lib.itoa (a*c)=X at *
  generalize Lib.itoa a=A at *
  generalize Lib.itoa b=B at *
  generalize Lib.itoa c=C at *
  generalize Lib.itoa d=D at *
  go_enter Tryz.func61,Tryz.ntmps61
  go_wp2_with fail
  refine cx (M1.out _ (hE.q bt)) fun w1 hq1=>?_
  have B1:=((Blk.new w [.string ⟨A.toArray⟩,.string ⟨B.toArray⟩] 119).alloc (.cells #[.string ⟨C.toArray⟩,.string ⟨D.toArray⟩] 119)).keep hq1 (by simp;omega)
  have B2:=(Blk.new (w.alloc (.cells #[.string ⟨A.toArray⟩,.string ⟨B.toArray⟩] 119)) [.string ⟨C.toArray⟩,.string ⟨D.toArray⟩] 119).keep hq1 (by simp)
  rw[World.size_alloc]at B2
  have hQ1:Q w w1:=Q.trans (show Below w.heap.size w _ from bt) hq1
  have c0:=B1.cell
  have d0:=B2.cell
  go_wp2_with fail
  refine cx (M2.out _ (hE.q hQ1)) fun w2 hq2=>?_
  have hQ2:=Q.trans hQ1 hq2
  clear M1 M2 c0 d0
  go_wp2
  go_ret2
  exact⟨rfl,hQ2⟩
theorem zh4(x y:Rat)(hx:zaj x=false)(hy:zaj y=false)(h:mulL x y=true)(w:World)(hE:Env w) :
  CR 33 #[.string ⟨(zh x).toArray⟩,.string ⟨(zh y).toArray⟩] w (.tuple #[.string ⟨#[]⟩,.int .i64 4]):=by
 have hs:¬ (zS x∧zS y):=by
  rintro⟨a,b⟩
  have hb:∀ q:Rat,zS q→Bd 8 q:=fun q hq=>⟨by have:=hq.1;omega,by have:=hq.2;omega⟩
  have hxb:=hb x a
  have hyb:=hb y b
  unfold mulL at h
  rw[zay (zar hxb.1 hyb.1) (by decide),zay (n:=16) (by rw[← Int.natCast_mul,Int.natAbs_natCast];exact zbS hxb hyb) (by decide)]at h
  cases h
 have HQ:=LH (fun w=>zaK (zh x) (zh y) (.func (.func 59) #[] #[]) (by have:=zaP hx;omega) (by have:=zaP hy;omega) (zbt hs) w)
 have HF:=fun w' hw'=>zhb x.num (x.den:Int) y.num (y.den:Int) (zw hx).1 (zw hx).2 (zw hy).1 (zw hy).2 h w' hw'
 have HB:=LH (fun w (hw:Env w)=>zdO x y hx hy _ _ w hw (fun w' hq=>HF w' (hw.q hq)))
 clear HF hs hx hy h
 go_enter Tryz.func33,Tryz.ntmps33
 go_wp2_with fail
 refine cx (HQ.out _) fun w1 hq1=>?_
 go_wp2_with fail
 refine cx (HB.out _ (hE.q hq1)) fun w2 hq2=>?_
 have hQ2:=Q.trans hq1 hq2
 go_wp2
 go_ret2
 exact⟨rfl,hQ2⟩
def ztL(x y:Rat):Value:=if mulL x y=true then .tuple #[.string ⟨#[]⟩,.int .i64 4]else .tuple #[.string ⟨(zh (x*y)).toArray⟩,.int .i64 0]
def zt6(x y:Rat):Value:=if zj9 x y=true then .tuple #[.string ⟨#[]⟩,.int .i64 4]else .tuple #[.string ⟨(zh (x+y)).toArray⟩,.int .i64 0]
theorem zcP(x y:Rat)(hx:zaj x=false)(hy:zaj y=false)(w:World)(hE:Env w) :
  CR 33 #[.string ⟨(zh x).toArray⟩,.string ⟨(zh y).toArray⟩] w (ztL x y):=by
 unfold ztL
 cases h:mulL x y with
 | true=>exact zh4 x y hx hy h w hE
 | false =>
  have h':=h
  unfold mulL at h'
  rw[Bool.or_eq_false_iff]at h'
  exact zhE x y hx hy h'.1 h'.2 w hE
theorem zh7(x y:Rat)(hx:zaj x=false)(hy:zaj y=false)(w:World)(hE:Env w) :
  CR 84 #[.string ⟨(zh x).toArray⟩,.string ⟨(zh y).toArray⟩] w (zt6 x y):=by
 unfold zt6
 cases h:zj9 x y with
 | true=>exact zh6 x y hx hy h w hE
 | false =>
  have h':=h
  unfold zj9 at h'
  simp only[Bool.or_eq_false_iff]at h'
  exact zhG x y hx hy h'.1.1.1 h'.1.1.2 h'.1.2 h'.2 w hE
theorem ziP{n d:Int}(hn:lim n=false)(hd:lim d=false)(h0:0<d):zaj (Rat.divInt n d)=false:=by
 obtain⟨k,rfl⟩:=Int.eq_ofNat_of_zero_le (show 0≤d by omega)
 obtain⟨e1,e2⟩:=zc2 n k (by omega)
 unfold zaj
 rw[e1,e2,zcr hn ?_,zcr hd ?_]
 ·rfl
 ·rw[Int.natAbs_natCast];exact Nat.div_le_self ..
 ·rw[Int.natAbs_tdiv];exact Nat.div_le_self ..
theorem zgA{x y:Rat}(h:mulL x y=false):zaj (x*y)=false:=by
 unfold mulL at h
 rw[Bool.or_eq_false_iff]at h
 rw[← Rat.mul_is]
 exact ziP h.1 h.2 (Int.mul_pos (by have:=x.den_pos;omega) (by have:=y.den_pos;omega))
theorem zpB{x y:Rat}(h:zj9 x y=false):zaj (x+y)=false:=by
 unfold zj9 at h
 simp only[Bool.or_eq_false_iff]at h
 rw[← Rat.add_is]
 exact ziP h.1.2 h.2 (Int.mul_pos (by have:=x.den_pos;omega) (by have:=y.den_pos;omega))
end
section
open Go.RowKit Kp
open Go.Lib (decDigits)
attribute [local go_sem] Oper.semAt_some
def r90(q:Rat):Bool:=decide ((decDigits q.num.natAbs).length≤90) && decide ((decDigits q.den).length≤90)
theorem zfK{q:Rat}(h:r90 q=true):zd1 q:=by
 unfold r90 at h
 simp only[Bool.and_eq_true,decide_eq_true_eq]at h
 exact h
theorem ztG{q:Rat}(h:r90 q=false):(90:Int)<max ((zq (Lib.itoa q.num)).length:Int) ((Lib.itoa (q.den:Int)).length:Int):=by
 rw[zav,← zV]
 unfold r90 at h
 simp only[Bool.and_eq_false_iff,decide_eq_false_iff_not]at h
 omega
theorem ziM(q:Rat)(h:zaj q=false)(h9:r90 q=false)(v1 v2:Value)(w:World)(hE:Env w)(h1:zcN w v1 [zh q]) :
  CR 168 #[v1,v2] w (.int .i64 4):=by
 obtain⟨b1,o1,cap1,rfl,hb1,hc1⟩:=h1
 have hcell:=hc1 0 (by simp)
 simp only[List.getD_cons_zero,Nat.add_zero]at hcell
 have lq1:=zW q.num (zw h).1
 have hlr:=zaP h
 have hck:=fun w hw=>zdC (zh q) (by omega) w hw
 rw[show zfD (zh q)=0 by rw[zeE,h];rfl]at hck
 have HCK:=LH hck
 have HO:=LH (fun w hw=>zg5 q h w hw)
 have hx:=ztG h9
 have l1:([zh q].length:Int)=1:=rfl
 have HT:=LH (fun w=>zK (Lib.itoa q.num) w)
 have lu:(zq (Lib.itoa q.num)).length≤1000:=by rw[zav];have:=lq1;have:=zeT q.num;omega
 have ld:(Lib.itoa (q.den:Int)).length≤1000:=by have:=zW (q.den:Int) (zw h).2;omega
 clear hck h9 h hc1 hlr lq1
 generalize zq (Lib.itoa q.num)=U at *
 generalize Lib.itoa q.num=N at *
 generalize Lib.itoa (q.den:Int)=D at *
 generalize zh q=S at *
 have hm:decide ((90:Int)<max (U.length:Int) (D.length:Int))=true:=decide_eq_true hx
 rw[show [S].length=1 from rfl]
 go_enter Tryz.func168,Tryz.ntmps168
 go_wp2
 refine wp_loop_rounds 2 ?_
 simp only[rounds_succ]
 go_wp2_with fail
 refine cx (HCK.out _ hE) fun w1 hq1=>?_
 go_wp2_with fail
 refine cx (HO.out _ (hE.q hq1)) fun w2 hq2=>?_
 have hQ2:Q w w2:=Q.trans hq1 hq2
 go_wp2_with fail
 go_quiet ((go_at_call 51;exact zke (HT.out _)))
 go_wp2
 go_ret
 exact⟨rfl,Below.drewN (hQ2.alloc hQ2.size _) _⟩
theorem zl1(p q:Rat)(hp:Bd 90 p)(hq:Bd 90 q)(pp:0≤p.num)(pq:0<q.num)(w:World)(hE:Env w) :
  CR 110 #[.string ⟨(zh p).toArray⟩,.string ⟨(zh q).toArray⟩] w (.tuple #[.string ⟨(if zcQ (p / q)then zh (sqR (p / q))else []).toArray⟩,.bool (zcQ (p / q)),.int .i64 0]):=by
 have hz:(zh q == [48])=false:=by
  rw[beq_eq_false_iff_ne,← zaN];exact fun h=>by have:=zaY h;subst this;exact absurd pq (by decide)
 have bq:=hp.quot hq pq
 have hlq:zaj (p / q)=false:=bq.zaj (by decide)
 have HC:=fun v1 v2 w hw h1 h2=>zfc [p,q] [p,q] (by intro x hx;rw[List.mem_cons,List.mem_singleton]at hx;rcases hx with rfl | rfl;exact hp.root90 (by decide);exact hq.root90 (by decide)) v1 v2 w hw h1 h2 (by simp) (by simp)
 rw[if_pos (by intro x hx;rw[List.mem_cons,List.mem_singleton]at hx;rcases hx with rfl | rfl <;> omega)]at HC
 have HC:=LH HC
 have HD:=LH (fun w hw=>zcf p q hp hq (by omega) (by decide) w hw)
 have HO:=LH (fun w hw=>zg5 (p / q) hlq w hw)
 have HR:=LH (fun w hw=>ziL (p / q) hlq (zea pp pq) w hw)
 generalize (⟨(if zcQ (p / q)then zh (sqR (p / q))else []).toArray⟩:ByteArray)=A at *
 generalize zcQ (p / q)=b at *
 generalize zh (p / q)=PQ at *
 generalize Lib.itoa (p / q).num=N at *
 generalize Lib.itoa ((p / q).den:Int)=D at *
 clear hp hq pp pq bq hlq
 generalize hsp:zh p=P at *
 generalize hsq:zh q=S at *
 go_enter Tryz.func110,Tryz.ntmps110
 go_wp2_with fail
 have B1:=((Blk.new w [.string ⟨P.toArray⟩,.string ⟨S.toArray⟩] 23).alloc (.cells #[.string ⟨P.toArray⟩,.string ⟨S.toArray⟩] 23))
 have B2:=Blk.new (w.alloc (.cells #[.string ⟨P.toArray⟩,.string ⟨S.toArray⟩] 23)) [.string ⟨P.toArray⟩,.string ⟨S.toArray⟩] 23
 have S1:=zcN.two B1
 have S2:=zcN.two B2
 have e2:(w.alloc (.cells #[.string ⟨P.toArray⟩,.string ⟨S.toArray⟩] 23)).heap.size=w.heap.size+1:=by simp
 rw[e2]at S2
 clear e2 B2 B1
 simp only[List.map_cons,List.map_nil,hsp,hsq]at HC
 refine(HC.out _ _ _ (hE.q bt) S1 S2).mono ?_
 clear S1 S2
 rintro e w1⟨rfl,hq1⟩
 have hQ1:Q w w1:=Q.trans (show Below w.heap.size w _ from bt) hq1
 clear hq1
 go_wp2_with fail
 refine cx (HD.out _ (hE.q hQ1)) fun w2 hq2=>?_
 have hQ2:=Q.trans hQ1 hq2
 go_wp2_with fail
 refine cx (HO.out _ (hE.q hQ2)) fun w3 hq3=>?_
 have hQ3:=Q.trans hQ2 hq3
 go_wp2_with fail
 refine cx (HR.out _ (hE.q hQ3)) fun w4 hq4=>?_
 have hQ4:=Q.trans hQ3 hq4
 go_wp2
 go_ret3
 exact⟨rfl,hQ4⟩
theorem zgk(l m:Nat)(hl:0<l)(hl1:l<10 ^ 90)(hm:0<m)(hm1:m<10 ^ 90)(w:World)(hE:Env w) :
  CR 110 #[.string ⟨(Lib.itoa (m:Int)).toArray⟩,.string ⟨(Lib.itoa (l:Int)).toArray⟩] w (.tuple #[.string ⟨(if zcQ ((m:Rat) / (l:Rat))then zh (sqR ((m:Rat) / (l:Rat)))else []).toArray⟩,.bool (zcQ ((m:Rat) / (l:Rat))),.int .i64 0]):=by
 have hb:∀ n:Nat,n<10 ^ 90→Bd 90 (n:Rat):=fun n hn=>⟨by rw[Rat.num_natCast,Int.natAbs_natCast];exact hn,by rw[Rat.den_natCast];exact by decide⟩
 have h:=zl1 (m:Rat) (l:Rat) (hb m hm1) (hb l hl1) (by rw[Rat.num_natCast];omega) (by rw[Rat.num_natCast];omega) w hE
 rw[zba,zba]at h
 exact h
theorem zoF{l m:Nat}(hl:0<l)(hl1:l<10 ^ 90)(hm1:m<10 ^ 90):Bd 45 (sqR ((m:Rat) / (l:Rat))):=ztC (n:=45) (zsK hl hl1 hm1)
def zh8(lo hi:Rat × Nat):Bool:=mulL hi.1 (sqR ((hi.2:Rat) / (lo.2:Rat))) || zj9 lo.1 (hi.1*sqR ((hi.2:Rat) / (lo.2:Rat)))
def zka:List (Rat × Nat)→Rat × Nat→Bool
 | [],_=>false
 | c::r,t=>if zcQ ((t.2:Rat) / (c.2:Rat))then(if t.2<c.2 then zh8 t c else zh8 c t)else zka r t
theorem zq7:∀ (cs:List (Rat × Nat)) (t:Rat × Nat) (k:Nat) (hk:k<cs.length),(∀ j (hj:j<k),zcQ ((t.2:Rat) / ((cs[j]'(by omega)).2:Rat))=false)→zcQ ((t.2:Rat) / ((cs[k]).2:Rat))=true →
  zka cs t=(if t.2<(cs[k]).2 then zh8 t cs[k]else zh8 cs[k] t)
 | [],_,_,hk,_,_=>absurd hk (by simp)
 | c::r,t,0,_,_,h=>by
  unfold zka
  exact if_pos (show zcQ ((t.2:Rat) / (c.2:Rat))=true from h)
 | c::r,t,k+1,hk,h1,h=>by
  have h0:=h1 0 (by omega)
  simp only[List.getElem_cons_zero]at h0
  unfold zka
  rw[if_neg (by rw[h0];decide),zq7 r t k (by simpa using hk) (fun j hj=>by have:=h1 (j+1) (by omega);simpa using this) (by simpa using h)]
  rfl
theorem zom:∀ (cs:List (Rat × Nat)) (t:Rat × Nat),(∀ j (hj:j<cs.length),zcQ ((t.2:Rat) / ((cs[j]).2:Rat))=false)→zka cs t=false
 | [],_,_=>rfl
 | c::r,t,h1=>by
  have h0:=h1 0 (by simp)
  simp only[List.getElem_cons_zero]at h0
  unfold zka
  rw[if_neg (by rw[h0];decide),zom r t (fun j hj=>by have:=h1 (j+1) (by simp;omega);simpa using this)]
def CW(c:Rat × Nat):Prop:=zaj c.1=false∧0<c.2∧c.2<10 ^ 90
theorem zrl{l m:Nat}(hl:0<l)(hl1:l<10 ^ 90)(hm1:m<10 ^ 90):zaj (sqR ((m:Rat) / (l:Rat)))=false:=(zoF hl hl1 hm1).zaj (by decide)
theorem CW.plus{c h:Rat × Nat}(hc:CW c)(_hh:CW h)(he:zh8 c h=false):CW (zgv c h):=by
 unfold zh8 at he
 rw[Bool.or_eq_false_iff]at he
 exact⟨zpB he.2,hc.2.1,hc.2.2⟩
theorem CW.adds{t:Rat × Nat}(ht:CW t):∀ {cs:List (Rat × Nat)},(∀ c∈cs,CW c)→zka cs t=false→∀ d∈zd0 cs t,CW d
 | [],_,_,d,hd=>by
  unfold zd0 at hd
  rw[List.mem_singleton]at hd
  exact hd ▸ ht
 | c::r,h,he,d,hd=>by
  have hc:=h c (List.mem_cons_self ..)
  unfold zka at he
  unfold zd0 at hd
  by_cases hs:zcQ ((t.2:Rat) / (c.2:Rat))=true
  ·rw[if_pos hs]at he hd
   rcases List.mem_cons.1 hd with rfl | hd
   ·by_cases hlt:t.2<c.2
    ·rw[if_pos hlt]at he ⊢;exact ht.plus hc he
    ·rw[if_neg hlt]at he ⊢;exact hc.plus ht he
   ·exact h d (List.mem_cons_of_mem _ hd)
  ·rw[if_neg hs]at he hd
   rcases List.mem_cons.1 hd with rfl | hd
   ·exact hc
   ·exact CW.adds ht (fun x hx=>h x (List.mem_cons_of_mem _ hx)) he d hd
def zfL(c h:Rat × Nat):Str × Str:=if zh8 c h=true then([],[])else ofC (zgv c h)
def zmb(c h:Rat × Nat):Int:=if zh8 c h=true then 4 else 0
theorem zfv(c h:Rat × Nat)(hc:CW c)(hh:CW h)(hq:zcQ ((h.2:Rat) / (c.2:Rat))=true)(w:World)(hE:Env w) :
  CR 124 #[.agg #[.string ⟨(zh c.1).toArray⟩,.string ⟨(Lib.itoa (c.2:Int)).toArray⟩],.agg #[.string ⟨(zh h.1).toArray⟩,.string ⟨(Lib.itoa (h.2:Int)).toArray⟩]] w (.tuple #[.agg #[.string ⟨(zfL c h).1.toArray⟩,.string ⟨(zfL c h).2.toArray⟩],.int .i64 (zmb c h)]):=by
 obtain⟨y,m⟩:=h
 obtain⟨x,l⟩:=c
 obtain⟨bx,hl,hl1⟩:=hc
 obtain⟨bY,hm,hm1⟩:=hh
 simp only at *
 have bk:=zrl hl hl1 hm1
 have hr:=fun w hw=>zgk l m hl hl1 hm hm1 w hw
 rw[hq]at hr
 have HR:=LH hr
 unfold zfL zmb zh8 zgv ofC
 simp only
 generalize sqR ((m:Rat) / (l:Rat))=k at *
 clear hr hq
 simp only[if_true]at HR
 have hmv:=fun w hw=>zcP y k bY bk w hw
 unfold ztL at hmv
 cases hml:mulL y k with
 | true =>
  rw[hml,if_pos rfl]at hmv
  have HM:=LH hmv
  simp only[Bool.true_or,if_true]
  clear hmv hml bx bY bk hl hl1 hm hm1
  generalize hsk:zh k=K at *
  generalize zh x=X at *
  generalize zh y=Y at *
  generalize Lib.itoa (l:Int)=L at *
  generalize Lib.itoa (m:Int)=M at *
  obtain⟨W0,hW0⟩:∃ W0,((w.alloc (.cells [.string ⟨X.toArray⟩,.string ⟨L.toArray⟩].toArray 129)).alloc (.cells [.string ⟨Y.toArray⟩,.string ⟨M.toArray⟩].toArray 129)).alloc (.cells [.string ⟨#[]⟩,.string ⟨#[]⟩].toArray 129)=W0:=⟨_,rfl⟩
  have hQ0:Q w W0:=by rw[← hW0];exact(((Below.refl _ w).alloc (Nat.le_refl _) _).alloc (by simp) _).alloc (by simp;omega) _
  have C1:Blk W0 w.heap.size [.string ⟨X.toArray⟩,.string ⟨L.toArray⟩] 129:=by rw[← hW0];exact((Blk.new w _ _).alloc _).alloc _
  have C2:Blk W0 (w.heap.size+1) [.string ⟨Y.toArray⟩,.string ⟨M.toArray⟩] 129:=by
   have:=(Blk.new (w.alloc (.cells [.string ⟨X.toArray⟩,.string ⟨L.toArray⟩].toArray 129)) [.string ⟨Y.toArray⟩,.string ⟨M.toArray⟩] 129).alloc (.cells [.string ⟨#[]⟩,.string ⟨#[]⟩].toArray 129)
   rw[World.size_alloc,hW0]at this;exact this
  have C3:Blk W0 (w.heap.size+2) [.string ⟨#[]⟩,.string ⟨#[]⟩] 129:=by
   have:=Blk.new ((w.alloc (.cells [.string ⟨X.toArray⟩,.string ⟨L.toArray⟩].toArray 129)).alloc (.cells [.string ⟨Y.toArray⟩,.string ⟨M.toArray⟩].toArray 129)) [.string ⟨#[]⟩,.string ⟨#[]⟩] 129
   rw[World.size_alloc,World.size_alloc,hW0]at this;exact this
  have a1:=C1.cell 1
  have b1:=C2.cell 1
  simp only[zs4,zs5]at a1 b1
  go_enter Tryz.func124,Tryz.ntmps124
  go_wp2_with fail
  refine(HR.out _ (hE.q hQ0)).mono ?_
  clear a1 b1 hW0
  rintro e w1⟨rfl,hq1⟩
  have hQ1:=Q.trans hQ0 hq1
  have D1:=C1.keep hq1 C1.lt
  have D2:=C2.keep hq1 C2.lt
  have D3:=C3.keep hq1 C3.lt
  have b0:=D2.cell 0
  simp only[List.getElem?_cons_zero]at b0
  go_wp2_with fail
  refine(HM.out _ (hE.q hQ1)).mono ?_
  clear b0 C1 C2 C3
  rintro e w2⟨rfl,hq2⟩
  have hQ2:=Q.trans hQ1 hq2
  have C3:=D3.keep hq2 D3.lt
  have c0:=C3.cell
  have f0:=C3.frozen 0
  have f1:=C3.frozen 1
  have l3:=C3.lt
  go_wp2
  refine bodyPost_ret (v:=.tuple #[.agg #[.string ⟨#[]⟩,.string ⟨#[]⟩],.int .i64 4])
   (zkU _ _ (w.heap.size+2) _ _ _ rfl rfl (((C3.set 0 _).set 1 _).cell 0) (((C3.set 0 _).set 1 _).cell 1)) rfl ⟨rfl,?_⟩
  exact(hQ2.setCell (p:=⟨w.heap.size+2,0,none⟩) (by simp) _).setCell (p:=⟨w.heap.size+2,1,none⟩) (by simp) _
 | false =>
  rw[hml,if_neg (by decide)]at hmv
  have HM:=LH hmv
  have hav:=fun w hw=>zh7 x (y*k) bx (zgA hml) w hw
  unfold zt6 at hav
  rw[Bool.false_or]
  cases hal:zj9 x (y*k)with
  | true =>
   rw[hal,if_pos rfl]at hav
   have HA:=LH hav
   simp only[if_true]
   clear hmv hml hal hav bx bY bk hl hl1 hm hm1
   generalize zh (y*k)=YK at *
   generalize hsk:zh k=K at *
   generalize zh x=X at *
   generalize zh y=Y at *
   generalize Lib.itoa (l:Int)=L at *
   generalize Lib.itoa (m:Int)=M at *
   obtain⟨W0,hW0⟩:∃ W0,((w.alloc (.cells [.string ⟨X.toArray⟩,.string ⟨L.toArray⟩].toArray 129)).alloc (.cells [.string ⟨Y.toArray⟩,.string ⟨M.toArray⟩].toArray 129)).alloc (.cells [.string ⟨#[]⟩,.string ⟨#[]⟩].toArray 129)=W0:=⟨_,rfl⟩
   have hQ0:Q w W0:=by rw[← hW0];exact(((Below.refl _ w).alloc (Nat.le_refl _) _).alloc (by simp) _).alloc (by simp;omega) _
   have C1:Blk W0 w.heap.size [.string ⟨X.toArray⟩,.string ⟨L.toArray⟩] 129:=by rw[← hW0];exact((Blk.new w _ _).alloc _).alloc _
   have C2:Blk W0 (w.heap.size+1) [.string ⟨Y.toArray⟩,.string ⟨M.toArray⟩] 129:=by
    have:=(Blk.new (w.alloc (.cells [.string ⟨X.toArray⟩,.string ⟨L.toArray⟩].toArray 129)) [.string ⟨Y.toArray⟩,.string ⟨M.toArray⟩] 129).alloc (.cells [.string ⟨#[]⟩,.string ⟨#[]⟩].toArray 129)
    rw[World.size_alloc,hW0]at this;exact this
   have C3:Blk W0 (w.heap.size+2) [.string ⟨#[]⟩,.string ⟨#[]⟩] 129:=by
    have:=Blk.new ((w.alloc (.cells [.string ⟨X.toArray⟩,.string ⟨L.toArray⟩].toArray 129)).alloc (.cells [.string ⟨Y.toArray⟩,.string ⟨M.toArray⟩].toArray 129)) [.string ⟨#[]⟩,.string ⟨#[]⟩] 129
    rw[World.size_alloc,World.size_alloc,hW0]at this;exact this
   have a1:=C1.cell 1
   have b1:=C2.cell 1
   simp only[zs4,zs5]at a1 b1
   go_enter Tryz.func124,Tryz.ntmps124
   go_wp2_with fail
   refine(HR.out _ (hE.q hQ0)).mono ?_
   clear a1 b1 hW0
   rintro e w1⟨rfl,hq1⟩
   have hQ1:=Q.trans hQ0 hq1
   have D1:=C1.keep hq1 C1.lt
   have D2:=C2.keep hq1 C2.lt
   have D3:=C3.keep hq1 C3.lt
   have b0:=D2.cell 0
   simp only[List.getElem?_cons_zero]at b0
   go_wp2_with fail
   refine(HM.out _ (hE.q hQ1)).mono ?_
   clear b0 C1 C2 C3
   rintro e w2⟨rfl,hq2⟩
   have hQ2:=Q.trans hQ1 hq2
   have C1:=D1.keep hq2 D1.lt
   have C3:=D3.keep hq2 D3.lt
   have a0:=C1.cell 0
   simp only[List.getElem?_cons_zero]at a0
   go_wp2_with fail
   refine(HA.out _ (hE.q hQ2)).mono ?_
   clear a0 D1 D2 D3
   rintro e w3⟨rfl,hq3⟩
   have hQ3:=Q.trans hQ2 hq3
   have D1:=C1.keep hq3 C1.lt
   have D3:=C3.keep hq3 C3.lt
   have a1:=D1.cell 1
   have c0:=D3.cell
   have f0:=D3.frozen 0
   have f1:=D3.frozen 1
   have l3:=D3.lt
   try simp only[zs4,zs5]at a1
   go_wp2
   refine bodyPost_ret (v:=.tuple #[.agg #[.string ⟨#[]⟩,.string ⟨#[]⟩],.int .i64 4])
    (zkU _ _ (w.heap.size+2) _ _ _ rfl rfl (((D3.set 0 _).set 1 _).cell 0) (((D3.set 0 _).set 1 _).cell 1)) rfl ⟨rfl,?_⟩
   exact(hQ3.setCell (p:=⟨w.heap.size+2,0,none⟩) (by simp) _).setCell (p:=⟨w.heap.size+2,1,none⟩) (by simp) _
  | false =>
   rw[hal,if_neg (by decide)]at hav
   have HA:=LH hav
   rw[if_neg (by decide),if_neg (by decide)]
   clear hmv hml hal hav bx bY bk hl hl1 hm hm1
   generalize zh (x+y*k)=R at *
   generalize zh (y*k)=YK at *
   generalize hsk:zh k=K at *
   generalize zh x=X at *
   generalize zh y=Y at *
   generalize Lib.itoa (l:Int)=L at *
   generalize Lib.itoa (m:Int)=M at *
   obtain⟨W0,hW0⟩:∃ W0,((w.alloc (.cells [.string ⟨X.toArray⟩,.string ⟨L.toArray⟩].toArray 129)).alloc (.cells [.string ⟨Y.toArray⟩,.string ⟨M.toArray⟩].toArray 129)).alloc (.cells [.string ⟨#[]⟩,.string ⟨#[]⟩].toArray 129)=W0:=⟨_,rfl⟩
   have hQ0:Q w W0:=by rw[← hW0];exact(((Below.refl _ w).alloc (Nat.le_refl _) _).alloc (by simp) _).alloc (by simp;omega) _
   have C1:Blk W0 w.heap.size [.string ⟨X.toArray⟩,.string ⟨L.toArray⟩] 129:=by rw[← hW0];exact((Blk.new w _ _).alloc _).alloc _
   have C2:Blk W0 (w.heap.size+1) [.string ⟨Y.toArray⟩,.string ⟨M.toArray⟩] 129:=by
    have:=(Blk.new (w.alloc (.cells [.string ⟨X.toArray⟩,.string ⟨L.toArray⟩].toArray 129)) [.string ⟨Y.toArray⟩,.string ⟨M.toArray⟩] 129).alloc (.cells [.string ⟨#[]⟩,.string ⟨#[]⟩].toArray 129)
    rw[World.size_alloc,hW0]at this;exact this
   have C3:Blk W0 (w.heap.size+2) [.string ⟨#[]⟩,.string ⟨#[]⟩] 129:=by
    have:=Blk.new ((w.alloc (.cells [.string ⟨X.toArray⟩,.string ⟨L.toArray⟩].toArray 129)).alloc (.cells [.string ⟨Y.toArray⟩,.string ⟨M.toArray⟩].toArray 129)) [.string ⟨#[]⟩,.string ⟨#[]⟩] 129
    rw[World.size_alloc,World.size_alloc,hW0]at this;exact this
   have a1:=C1.cell 1
   have b1:=C2.cell 1
   simp only[zs4,zs5]at a1 b1
   go_enter Tryz.func124,Tryz.ntmps124
   go_wp2_with fail
   refine(HR.out _ (hE.q hQ0)).mono ?_
   clear a1 b1 hW0
   rintro e w1⟨rfl,hq1⟩
   have hQ1:=Q.trans hQ0 hq1
   have D1:=C1.keep hq1 C1.lt
   have D2:=C2.keep hq1 C2.lt
   have D3:=C3.keep hq1 C3.lt
   have b0:=D2.cell 0
   simp only[List.getElem?_cons_zero]at b0
   go_wp2_with fail
   refine(HM.out _ (hE.q hQ1)).mono ?_
   clear b0 C1 C2 C3
   rintro e w2⟨rfl,hq2⟩
   have hQ2:=Q.trans hQ1 hq2
   have C1:=D1.keep hq2 D1.lt
   have C3:=D3.keep hq2 D3.lt
   have a0:=C1.cell 0
   simp only[List.getElem?_cons_zero]at a0
   go_wp2_with fail
   refine(HA.out _ (hE.q hQ2)).mono ?_
   clear a0 D1 D2 D3
   rintro e w3⟨rfl,hq3⟩
   have hQ3:=Q.trans hQ2 hq3
   have D1:=C1.keep hq3 C1.lt
   have D3:=C3.keep hq3 C3.lt
   have a1:=D1.cell 1
   have c0:=D3.cell
   have f0:=D3.frozen 0
   have f1:=D3.frozen 1
   have l3:=D3.lt
   try simp only[zs4,zs5]at a1
   go_wp2
   refine bodyPost_ret (v:=.tuple #[.agg #[.string ⟨R.toArray⟩,.string ⟨L.toArray⟩],.int .i64 0])
    (zkU _ _ (w.heap.size+2) _ _ _ rfl rfl (((D3.set 0 _).set 1 _).cell 0) (((D3.set 0 _).set 1 _).cell 1)) rfl ⟨rfl,?_⟩
   exact(hQ3.setCell (p:=⟨w.heap.size+2,0,none⟩) (by simp) _).setCell (p:=⟨w.heap.size+2,1,none⟩) (by simp) _
end
end Go.Proofs.YtagkadlaeeoblaaGreatDoor
