/-
  The law of the deepest birdsmouth: its walk.
-/
import Derived.Test.YtlbjjkmfcgcodaaGreatDoorDL
namespace Go.Proofs.YtlbjjkmfcgcodaaGreatDoor
open Go.RowKit Go.Shelf Kp

attribute [local go_sem] Oper.semAt_some

/-- What joint.Check answers of a seat. -/
def chkE (x : Raf) (q : Rat) : Int := if ntE (longG x q) (inB x q) ≠ 0 then ntE (longG x q) (inB x q) else if 0 < ordF (q * x.pitch * 3) (x.dep : Rat) then 20 else 0

set_option maxRecDepth 100000 in
set_option maxHeartbeats 4000000 in
theorem joint_CheckG (ro : Ro) (m : Mb) (x : Raf) (hx : RafBd x) (q : Rat) (hq : NotchQ q) (w : World) (hE : Env w) (hof : OfC w ro m x) :
    Calls Tryz.prog 17 #[.agg (roC ro).toArray, .agg (mbC m).toArray, .agg #[.string ⟨(rstr (x.over : Rat)).toArray⟩, .string ⟨(rstr q).toArray⟩, .string ⟨(rstr (q * x.pitch)).toArray⟩]] w fun e w' => e = .returned (.int .i64 (chkE x q)) ∧ Q w w' := by
  have HN : Hid (∀ W, Env W → Q w W → Calls Tryz.prog 48 #[.agg (roC ro).toArray, .agg (mbC m).toArray, .agg #[.string ⟨(rstr (x.over : Rat)).toArray⟩, .string ⟨(rstr q).toArray⟩, .string ⟨(rstr (q * x.pitch)).toArray⟩]] W fun e w' => e = .returned (.tuple #[.agg (if ntE (longG x q) (inB x q) = 0 then rafC x else rafZ).toArray, .int .i64 (ntE (longG x q) (inB x q))]) ∧ Q W w') := Lib.hid (fun W hW hqW => joint_notchedG ro m x hx q hq W hW (fun W2 h2 hq2 => hof W2 h2 (Q.trans hqW hq2)))
  have b3 : Bd 1 (3 : Rat) := ⟨by decide, by decide⟩
  have bh := hq.b.mul hx.p
  have bd : Bd 4 (x.dep : Rat) := bd_int (by have := hx.d1; have := hx.d2; omega) (by decide)
  have HM := Lib.hid (fun w hw => rational_Mul_bd (q * x.pitch) 3 bh b3 (by decide) w hw)
  rw [show rstr (3 : Rat) = [51] from by kernel_rfl] at HM
  have HW := Lib.hid (fun w hw => joint_whole x.dep (by have := hx.d1; have := hx.d2; omega) w hw)
  have HO := Lib.hid (fun w hw => joint_order (q * x.pitch * 3) (x.dep : Rat) (bh.mul b3) bd (by decide) w hw)
  obtain ⟨od, hod⟩ : ∃ od, ordF (q * x.pitch * 3) (x.dep : Rat) = od := ⟨_, rfl⟩
  unfold chkE
  rw [hod] at HO ⊢
  clear hod bh bd b3 hq hx hof
  generalize ntE (longG x q) (inB x q) = E at *
  obtain ⟨C, hC⟩ : ∃ C, (if E ≠ 0 then E else if 0 < od then (20 : Int) else 0) = C := ⟨_, rfl⟩
  rw [hC]
  have HC := Lib.hid hC
  clear hC
  unfold rafC rafZ roC Sl3.v mbC at HN
  unfold roC Sl3.v mbC
  obtain ⟨⟨a0, n0, c0⟩, ⟨a1, n1, c1⟩, ⟨a2, n2, c2⟩, ⟨a3, n3, c3⟩⟩ := ro
  obtain ⟨ki, fa, ot, fx, fy, fz, tx, ty, tz, wi, de⟩ := m
  obtain ⟨dp, pitch, run, over⟩ := x
  simp only at HN HM HW HO ⊢
  generalize rstr (q * pitch * 3) = H3 at *
  generalize rstr (dp : Rat) = DD at *
  generalize rstr (q * pitch) = HE at *
  generalize rstr q = SS at *
  generalize rstr (over : Rat) = OV at *
  generalize rstr pitch = PI at *
  generalize rstr run = HI at *
  have BR := ((Blk.new w [.slice a0 n0 c0, .slice a1 n1 c1, .slice a2 n2 c2, .slice a3 n3 c3] 29).alloc (.cells #[.int .i64 ki, .int .i64 fa, .int .i64 ot, .string ⟨fx.toArray⟩, .string ⟨fy.toArray⟩, .string ⟨fz.toArray⟩, .string ⟨tx.toArray⟩, .string ⟨ty.toArray⟩, .string ⟨tz.toArray⟩, .int .i64 wi, .int .i64 de] 34)).alloc (.cells #[.string ⟨OV.toArray⟩, .string ⟨SS.toArray⟩, .string ⟨HE.toArray⟩] 41)
  have BM := (Blk.new1 w (.cells #[.slice a0 n0 c0, .slice a1 n1 c1, .slice a2 n2 c2, .slice a3 n3 c3] 29) [.int .i64 ki, .int .i64 fa, .int .i64 ot, .string ⟨fx.toArray⟩, .string ⟨fy.toArray⟩, .string ⟨fz.toArray⟩, .string ⟨tx.toArray⟩, .string ⟨ty.toArray⟩, .string ⟨tz.toArray⟩, .int .i64 wi, .int .i64 de] 34).alloc (.cells #[.string ⟨OV.toArray⟩, .string ⟨SS.toArray⟩, .string ⟨HE.toArray⟩] 41)
  have BN0 := Blk.new2 w (.cells #[.slice a0 n0 c0, .slice a1 n1 c1, .slice a2 n2 c2, .slice a3 n3 c3] 29) (.cells #[.int .i64 ki, .int .i64 fa, .int .i64 ot, .string ⟨fx.toArray⟩, .string ⟨fy.toArray⟩, .string ⟨fz.toArray⟩, .string ⟨tx.toArray⟩, .string ⟨ty.toArray⟩, .string ⟨tz.toArray⟩, .int .i64 wi, .int .i64 de] 34) [.string ⟨OV.toArray⟩, .string ⟨SS.toArray⟩, .string ⟨HE.toArray⟩] 41
  obtain ⟨W0, hW0⟩ : ∃ W0, ((w.alloc (.cells #[.slice a0 n0 c0, .slice a1 n1 c1, .slice a2 n2 c2, .slice a3 n3 c3] 29)).alloc (.cells #[.int .i64 ki, .int .i64 fa, .int .i64 ot, .string ⟨fx.toArray⟩, .string ⟨fy.toArray⟩, .string ⟨fz.toArray⟩, .string ⟨tx.toArray⟩, .string ⟨ty.toArray⟩, .string ⟨tz.toArray⟩, .int .i64 wi, .int .i64 de] 34)).alloc (.cells #[.string ⟨OV.toArray⟩, .string ⟨SS.toArray⟩, .string ⟨HE.toArray⟩] 41) = W0 := ⟨_, rfl⟩
  have hq0 : Q w W0 := by rw [← hW0]; exact bt
  have hEw := hE.ofQ hq0
  rw [hW0] at BR BM
  have BN : Blk W0 (w.heap.size + 2) [.string ⟨OV.toArray⟩, .string ⟨SS.toArray⟩, .string ⟨HE.toArray⟩] 41 := by rw [← hW0]; exact BN0
  clear hE BN0
  have hE := hEw
  clear hEw
  have hQ0 := Q.refl W0
  replace r0 := BR.cell 0
  replace r1 := BR.cell 1
  replace r2 := BR.cell 2
  replace r3 := BR.cell 3
  simp only [List.getElem?_cons_zero, List.getElem?_cons_succ] at r0 r1 r2 r3
  replace lBR := BR.lt
  replace m0 := BM.cell 0
  replace m1 := BM.cell 1
  replace m2 := BM.cell 2
  replace m3 := BM.cell 3
  replace m4 := BM.cell 4
  replace m5 := BM.cell 5
  replace m6 := BM.cell 6
  replace m7 := BM.cell 7
  replace m8 := BM.cell 8
  replace m9 := BM.cell 9
  replace m10 := BM.cell 10
  simp only [List.getElem?_cons_zero, List.getElem?_cons_succ] at m0 m1 m2 m3 m4 m5 m6 m7 m8 m9 m10
  replace lBM := BM.lt
  replace t0 := BN.cell 0
  replace t1 := BN.cell 1
  replace t2 := BN.cell 2
  simp only [List.getElem?_cons_zero, List.getElem?_cons_succ] at t0 t1 t2
  replace lBN := BN.lt
  go_enter Tryz.func17, Tryz.ntmps17
  go_wp2_with fail
  clear hW0
  refine (HN.out _ hE hq0).mono ?_
  by_cases hz : E = 0
  case neg =>
    rw [if_neg hz]
    rintro e Y1 ⟨rfl, hq1⟩
    have hc := HC.out
    rw [if_pos hz] at hc
    subst hc
    have hzb : (E != 0) = true := by rw [bne_iff_ne]; exact hz
    have hQe : Q w (Y1.alloc (.cells #[.int .i64 0, .string ⟨#[]⟩, .string ⟨#[]⟩, .string ⟨#[]⟩] 85)) := Q.trans (Q.trans hq0 hq1) ((Below.refl _ Y1).alloc (Nat.le_refl _) _)
    clear HN HC HM HW HO BR BM BN r0 r1 r2 r3 m0 m1 m2 m3 m4 m5 m6 m7 m8 m9 m10 lBR lBM t0 t1 t2 lBN
    go_wp2
    go_ret
    exact ⟨rfl, hQe⟩
  rw [if_pos hz]
  rintro e Y1 ⟨rfl, hq1⟩
  have hc := HC.out
  rw [if_neg (fun h => h hz)] at hc
  have HC1 := Lib.hid hc
  subst hz
  clear HC hc
  have hQ1 : Q w Y1 := Q.trans hq0 hq1
  have X := Blk.new Y1 [.int .i64 dp, .string ⟨PI.toArray⟩, .string ⟨HI.toArray⟩, .string ⟨OV.toArray⟩] 85
  obtain ⟨W2, hW2⟩ : ∃ W2, Y1.alloc (.cells #[.int .i64 dp, .string ⟨PI.toArray⟩, .string ⟨HI.toArray⟩, .string ⟨OV.toArray⟩] 85) = W2 := ⟨_, rfl⟩
  have X : Blk W2 Y1.heap.size [.int .i64 dp, .string ⟨PI.toArray⟩, .string ⟨HI.toArray⟩, .string ⟨OV.toArray⟩] 85 := by rw [← hW2]; exact X
  have hqW : Q Y1 W2 := by rw [← hW2]; exact bt
  have hE2 := hE.ofQ (Q.trans hq1 hqW)
  have hwW : Q w W2 := Q.trans hQ1 hqW
  replace BN := BlkK (BlkK BN hq1) hqW
  clear hE HN BR BM r0 r1 r2 r3 m0 m1 m2 m3 m4 m5 m6 m7 m8 m9 m10 lBR lBM t0 t1 t2
  have hE := hE2
  clear hE2
  have hQ0 := Q.refl W2
  replace x0 := X.cell 0
  replace x1 := X.cell 1
  replace x2 := X.cell 2
  replace x3 := X.cell 3
  simp only [List.getElem?_cons_zero, List.getElem?_cons_succ] at x0 x1 x2 x3
  replace lX := X.lt
  replace t0 := BN.cell 0
  replace t1 := BN.cell 1
  replace t2 := BN.cell 2
  simp only [List.getElem?_cons_zero, List.getElem?_cons_succ] at t0 t1 t2
  replace lBN := BN.lt
  go_wp2_with fail
  clear hW2
  refine (HM.out _ (hE.ofQ bt)).mono ?_
  rintro e Z1 ⟨rfl, hq1⟩
  have hs1 : Q W2 Z1 := Q.trans bt hq1
  have hQ1 : Q W2 Z1 := Q.trans hQ0 hs1
  replace X := X.keep hs1 X.lt
  replace x0 := X.cell 0
  replace x1 := X.cell 1
  replace x2 := X.cell 2
  replace x3 := X.cell 3
  simp only [List.getElem?_cons_zero, List.getElem?_cons_succ] at x0 x1 x2 x3
  replace lX := X.lt
  replace BN := BN.keep hs1 BN.lt
  replace t0 := BN.cell 0
  replace t1 := BN.cell 1
  replace t2 := BN.cell 2
  simp only [List.getElem?_cons_zero, List.getElem?_cons_succ] at t0 t1 t2
  replace lBN := BN.lt
  go_wp2_with fail
  refine (HW.out _ (hE.ofQ bt)).mono ?_
  rintro e Z2 ⟨rfl, hq2⟩
  have hs2 : Q Z1 Z2 := Q.trans bt hq2
  have hQ2 : Q W2 Z2 := Q.trans hQ1 hs2
  replace X := X.keep hs2 X.lt
  replace x0 := X.cell 0
  replace x1 := X.cell 1
  replace x2 := X.cell 2
  replace x3 := X.cell 3
  simp only [List.getElem?_cons_zero, List.getElem?_cons_succ] at x0 x1 x2 x3
  replace lX := X.lt
  replace BN := BN.keep hs2 BN.lt
  replace t0 := BN.cell 0
  replace t1 := BN.cell 1
  replace t2 := BN.cell 2
  simp only [List.getElem?_cons_zero, List.getElem?_cons_succ] at t0 t1 t2
  replace lBN := BN.lt
  go_wp2_with fail
  refine (HO.out _ (hE.ofQ bt)).mono ?_
  rintro e Z3 ⟨rfl, hq3⟩
  have hs3 : Q Z2 Z3 := Q.trans bt hq3
  have hQ3 : Q W2 Z3 := Q.trans hQ2 hs3
  replace X := X.keep hs3 X.lt
  replace x0 := X.cell 0
  replace x1 := X.cell 1
  replace x2 := X.cell 2
  replace x3 := X.cell 3
  simp only [List.getElem?_cons_zero, List.getElem?_cons_succ] at x0 x1 x2 x3
  replace lX := X.lt
  replace BN := BN.keep hs3 BN.lt
  replace t0 := BN.cell 0
  replace t1 := BN.cell 1
  replace t2 := BN.cell 2
  simp only [List.getElem?_cons_zero, List.getElem?_cons_succ] at t0 t1 t2
  replace lBN := BN.lt
  have hQe := Q.trans hwW hQ3
  have hc := HC1.out
  by_cases h0 : 0 < od
  · have hd : decide (0 < od) = true := decide_eq_true h0
    rw [if_pos h0] at hc
    subst hc
    go_wp2
    go_ret
    exact ⟨rfl, hQe⟩
  · have hd : decide (0 < od) = false := decide_eq_false h0
    rw [if_neg h0] at hc
    subst hc
    go_wp2
    go_ret
    exact ⟨rfl, hQe⟩

set_option maxRecDepth 100000 in
set_option maxHeartbeats 4000000 in
theorem deep_check (ro : Ro) (m : Mb) (x : Raf) (hx : RafBd x) (q : Rat) (hq : NotchQ q) (bp br bm bs : Nat) (s : Sd) (hso : s.over = x.over) (w : World) (hE : Env w) (hof : OfC w ro m x) (t1 t2 t3 t4 : TypeId)
    (Bp : Blk w bp [.string ⟨(rstr x.pitch).toArray⟩] t1) (Br : Blk w br (roC ro) t2) (Bm : Blk w bm (mbC m) t3) (Bs : Blk w bs (sdC s) t4) :
    Calls Tryz.prog 16 #[.string ⟨(rstr q).toArray⟩, .pointer (some ⟨bp, 0, none⟩), .pointer (some ⟨br, 0, none⟩), .pointer (some ⟨bm, 0, none⟩), .pointer (some ⟨bs, 0, none⟩)] w fun e w' => e = .returned (.int .i64 (chkE x q)) ∧ Q w w' := by
  have HM := Lib.hid (fun w hw => rational_Mul_bd q x.pitch hq.b hx.p (by decide) w hw)
  have HN := Lib.hid (fun w hw => law_number x.over (by have := hx.o; omega) w hw)
  have HC : Hid (∀ W, Env W → Q w W → Calls Tryz.prog 17 #[.agg (roC ro).toArray, .agg (mbC m).toArray, .agg #[.string ⟨(rstr (x.over : Rat)).toArray⟩, .string ⟨(rstr q).toArray⟩, .string ⟨(rstr (q * x.pitch)).toArray⟩]] W fun e w' => e = .returned (.int .i64 (chkE x q)) ∧ Q W w') := Lib.hid (fun W hW hqW => joint_CheckG ro m x hx q hq W hW (fun W2 h2 hq2 => hof W2 h2 (Q.trans hqW hq2)))
  generalize chkE x q = C at *
  clear hof hq hx
  unfold roC Sl3.v mbC at *
  unfold sdC at Bs
  rw [hso] at Bs
  obtain ⟨⟨a0, n0, c0⟩, ⟨a1, n1, c1⟩, ⟨a2, n2, c2⟩, ⟨a3, n3, c3⟩⟩ := ro
  obtain ⟨ki, fa, ot, fx, fy, fz, tx, ty, tz, wi, de⟩ := m
  obtain ⟨dp, pitch, run, over⟩ := x
  simp only at HM HN HC Bp Br Bm Bs ⊢
  generalize rstr (q * pitch) = HE at *
  generalize rstr q = SS at *
  generalize rstr (over : Rat) = OV at *
  generalize rstr pitch = PI at *
  have hQ0 := Q.refl w
  replace p0 := Bp.cell 0
  simp only [List.getElem?_cons_zero] at p0
  replace lBp := Bp.lt
  replace r0 := Br.cell 0
  replace r1 := Br.cell 1
  replace r2 := Br.cell 2
  replace r3 := Br.cell 3
  simp only [List.getElem?_cons_zero, List.getElem?_cons_succ] at r0 r1 r2 r3
  replace lBr := Br.lt
  replace m0 := Bm.cell 0
  replace m1 := Bm.cell 1
  replace m2 := Bm.cell 2
  replace m3 := Bm.cell 3
  replace m4 := Bm.cell 4
  replace m5 := Bm.cell 5
  replace m6 := Bm.cell 6
  replace m7 := Bm.cell 7
  replace m8 := Bm.cell 8
  replace m9 := Bm.cell 9
  replace m10 := Bm.cell 10
  simp only [List.getElem?_cons_zero, List.getElem?_cons_succ] at m0 m1 m2 m3 m4 m5 m6 m7 m8 m9 m10
  replace lBm := Bm.lt
  replace s0 := Bs.cell 0
  replace s1 := Bs.cell 1
  replace s2 := Bs.cell 2
  replace s3 := Bs.cell 3
  replace s4 := Bs.cell 4
  replace s5 := Bs.cell 5
  replace s6 := Bs.cell 6
  simp only [List.getElem?_cons_zero, List.getElem?_cons_succ] at s0 s1 s2 s3 s4 s5 s6
  replace lBs := Bs.lt
  go_enter Tryz.func16, Tryz.ntmps16
  go_wp2_with fail
  refine (HM.out _ (hE.ofQ bt)).mono ?_
  rintro e Y1 ⟨rfl, hq1⟩
  have hs1 : Q w Y1 := Q.trans bt hq1
  have hQ1 : Q w Y1 := Q.trans hQ0 hs1
  replace Bp := Bp.keep hs1 Bp.lt
  replace p0 := Bp.cell 0
  simp only [List.getElem?_cons_zero] at p0
  replace lBp := Bp.lt
  replace Br := Br.keep hs1 Br.lt
  replace r0 := Br.cell 0
  replace r1 := Br.cell 1
  replace r2 := Br.cell 2
  replace r3 := Br.cell 3
  simp only [List.getElem?_cons_zero, List.getElem?_cons_succ] at r0 r1 r2 r3
  replace lBr := Br.lt
  replace Bm := Bm.keep hs1 Bm.lt
  replace m0 := Bm.cell 0
  replace m1 := Bm.cell 1
  replace m2 := Bm.cell 2
  replace m3 := Bm.cell 3
  replace m4 := Bm.cell 4
  replace m5 := Bm.cell 5
  replace m6 := Bm.cell 6
  replace m7 := Bm.cell 7
  replace m8 := Bm.cell 8
  replace m9 := Bm.cell 9
  replace m10 := Bm.cell 10
  simp only [List.getElem?_cons_zero, List.getElem?_cons_succ] at m0 m1 m2 m3 m4 m5 m6 m7 m8 m9 m10
  replace lBm := Bm.lt
  replace Bs := Bs.keep hs1 Bs.lt
  replace s0 := Bs.cell 0
  replace s1 := Bs.cell 1
  replace s2 := Bs.cell 2
  replace s3 := Bs.cell 3
  replace s4 := Bs.cell 4
  replace s5 := Bs.cell 5
  replace s6 := Bs.cell 6
  simp only [List.getElem?_cons_zero, List.getElem?_cons_succ] at s0 s1 s2 s3 s4 s5 s6
  replace lBs := Bs.lt
  have hEd : Env Y1.drew := hE.ofQ (Q.trans hQ1 (Below.drew (Q.refl Y1)))
  go_wp2_with fail
  refine wp_steadily 9 rfl (by kernel_rfl) rfl ?_
  refine svq 0 rfl (by intro w' hq; have hc0 := qcell hq r0; have hc1 := qcell hq r1; have hc2 := qcell hq r2; have hc3 := qcell hq r3; go_simp; try with_reducible rfl) ?_
  refine svq 1 rfl (by intro w' hq; have hc0 := qcell hq m0; have hc1 := qcell hq m1; have hc2 := qcell hq m2; have hc3 := qcell hq m3; have hc4 := qcell hq m4; have hc5 := qcell hq m5; have hc6 := qcell hq m6; have hc7 := qcell hq m7; have hc8 := qcell hq m8; have hc9 := qcell hq m9; have hc10 := qcell hq m10; go_simp; try with_reducible rfl) ?_
  refine svp 2 ?_
  refine svq 3 rfl (by intro w' hq; have hc0 := qcell hq s6; go_simp; try with_reducible rfl) ?_
  refine steadily_call (i := 4) (v := _) rfl rfl (by kernel_rfl) (by kernel_rfl) (fun _ _ _ h => h) (by rfl) ?_ (fun w' hq => HN.out w' (hEd.ofQ hq)) ?_
  · (intro w' hq; go_simp; try with_reducible rfl)
  simp only [Act.put, List.setIfInBounds_toArray, List.set_cons_zero, List.set_cons_succ]
  refine svp 5 ?_
  refine svp 6 ?_
  refine svp 7 ?_
  refine steadily_call (i := 8) (v := _) rfl rfl (by kernel_rfl) (by kernel_rfl) (fun _ _ _ h => h) (by rfl) ?_ (fun w' hq => HC.out w' (hEd.ofQ hq) (Q.trans hQ1 (Q.trans (Below.drew (Q.refl Y1)) hq))) ?_
  · (intro w' hq; go_simp; try with_reducible rfl)
  simp only [Act.put, List.setIfInBounds_toArray, List.set_cons_zero, List.set_cons_succ]
  refine steadily_done (by kernel_rfl) (fun w3 hq3 => ?_)
  simp only [List.drop_succ_cons, List.drop_zero]
  have hQe := Q.trans hQ1 (Q.trans (Below.drew (Q.refl Y1)) hq3)
  clear hq3
  go_wp2
  go_ret
  exact ⟨rfl, hQe⟩

theorem ordF_le {a b : Rat} (h : a ≤ b) : ordF a b ≤ 0 := by
  rcases Classical.em (a < b) with k | k
  · rw [ordF_lt k]; decide
  · rw [Rat.le_antisymm h (Rat.not_lt.1 k), ordF_eq]; decide
theorem chkE_vals (x : Raf) (q : Rat) : chkE x q = 0 ∨ chkE x q = 1 ∨ chkE x q = 9 ∨ chkE x q = 20 := by
  unfold chkE ntE
  cases longG x q <;> cases inB x q <;> simp
  by_cases h : 0 < ordF (q * x.pitch * 3) (x.dep : Rat)
  · simp [h]
  · simp [h]
    omega
theorem chkE_long {x : Raf} {q : Rat} (h : longG x q = true) : chkE x q = 1 := by
  unfold chkE ntE
  rw [h]
  rfl
theorem chkE_out {x : Raf} {q : Rat} (h : longG x q = false) (k : x.run - x.over < q) : chkE x q = 9 := by
  unfold chkE ntE inB
  rw [h, ordF_gt k]
  rfl
theorem chkE_in {x : Raf} {q : Rat} (h : longG x q = false) (k : q ≤ x.run - x.over) : chkE x q = if 0 < ordF (q * x.pitch * 3) (x.dep : Rat) then 20 else 0 := by
  unfold chkE ntE inB
  rw [h, decide_eq_true (ordF_le k)]
  rfl
theorem deep_math {x : Raf} (hx : RafBd x) {y d t : Rat} (hy : (x.dep : Rat) / (x.pitch * 3) = y) (hd : (if x.run - x.over < y then x.run - x.over else y) = d) (hr : 0 < x.run - x.over) :
    0 < d ∧ (chkE x (d * t) = 1 ∨ (chkE x d = 1 ∧ (chkE x (d * t) = 0 ∨ chkE x (d * t) = 9 ∨ chkE x (d * t) = 20)) ∨ (chkE x d = 0 ∧ chkE x (d * t) = 0 ∧ ordF t 1 = -1) ∨ (chkE x d = 0 ∧ chkE x (d * t) = 0 ∧ ordF t 1 = 0) ∨
      (chkE x d = 0 ∧ chkE x (d * t) = 9 ∧ ordF t 1 = 1) ∨ (chkE x d = 0 ∧ chkE x (d * t) = 20 ∧ ordF t 1 = 1)) := by
  have hp : 0 < x.pitch := (num_pos_iff _).2 hx.p0
  have hdep : (0 : Rat) < (x.dep : Rat) := by exact_mod_cast (show (0 : Int) < x.dep by have := hx.d1; omega)
  have hp3 : 0 < x.pitch * 3 := by grind
  have hyd : y * (x.pitch * 3) = (x.dep : Rat) := by rw [← hy]; grind
  have hy0 : 0 < y := by
    rw [← hy, Rat.div_def]
    exact Rat.mul_pos hdep (Rat.inv_pos.2 hp3)
  have hd0 : 0 < d := by
    rw [← hd]
    split <;> assumption
  have hdr : d ≤ x.run - x.over := by
    rw [← hd]
    split
    · exact Rat.le_refl
    · next h => exact Rat.not_lt.1 h
  have hdy : d ≤ y := by
    rw [← hd]
    split
    · next h => exact Rat.le_of_lt h
    · exact Rat.le_refl
  have hd3 : d * x.pitch * 3 ≤ (x.dep : Rat) := by
    have := Rat.mul_le_mul_of_nonneg_right hdy (Rat.le_of_lt hp3)
    grind
  refine ⟨hd0, ?_⟩
  cases hL2 : longG x (d * t)
  case true => exact .inl (chkE_long hL2)
  cases hL1 : longG x d
  case true =>
    refine .inr (.inl ⟨chkE_long hL1, ?_⟩)
    have h2 : chkE x (d * t) ≠ 1 := by
      unfold chkE ntE
      rw [hL2]
      cases inB x (d * t) <;> simp
      split <;> decide
    rcases chkE_vals x (d * t) with h | h | h | h
    · exact .inl h
    · exact absurd h h2
    · exact .inr (.inl h)
    · exact .inr (.inr h)
  have hX : chkE x d = 0 := by
    rw [chkE_in hL1 hdr, if_neg]
    have := ordF_le hd3
    omega
  by_cases h1 : t ≤ 1
  · have hdt : d * t ≤ d := by
      have := Rat.mul_le_mul_of_nonneg_left h1 (Rat.le_of_lt hd0)
      grind
    have h3 : d * t * x.pitch * 3 ≤ (x.dep : Rat) := by
      have := Rat.mul_le_mul_of_nonneg_right hdt (Rat.le_of_lt hp3)
      grind
    have hY : chkE x (d * t) = 0 := by
      rw [chkE_in hL2 (Rat.le_trans hdt hdr), if_neg]
      have := ordF_le h3
      omega
    by_cases h4 : t < 1
    · exact .inr (.inr (.inl ⟨hX, hY, ordF_lt h4⟩))
    · exact .inr (.inr (.inr (.inl ⟨hX, hY, by rw [Rat.le_antisymm h1 (Rat.not_lt.1 h4), ordF_eq]⟩)))
  · have h1' : 1 < t := Rat.not_le.1 h1
    have hdt : d < d * t := by
      have := Rat.mul_lt_mul_of_pos_left h1' hd0
      grind
    by_cases h5 : x.run - x.over < d * t
    · exact .inr (.inr (.inr (.inr (.inl ⟨hX, chkE_out hL2 h5, ordF_gt h1'⟩))))
    · have h6 : d = y := by
        rw [← hd] at h5 hdt ⊢
        by_cases h7 : x.run - x.over < y
        · rw [if_pos h7] at h5 hdt
          exact absurd hdt h5
        · rw [if_neg h7]
      have h8 : (x.dep : Rat) < d * t * x.pitch * 3 := by
        rw [h6] at hdt ⊢
        have := Rat.mul_lt_mul_of_pos_right hdt hp3
        grind
      have hY : chkE x (d * t) = 20 := by
        rw [chkE_in hL2 (Rat.not_lt.1 h5), ordF_gt h8]
        rfl
      exact .inr (.inr (.inr (.inr (.inr ⟨hX, hY, ordF_gt h1'⟩))))
theorem rafOf_run' (R : List (List Sd)) (m : Mb) : (rafOf R m).run = highF R m := rfl
theorem room_pos {R : List (List Sd)} {m : Mb} (h : noE R m = 0) : 0 < (rafOf R m).run - ((rafOf R m).over : Rat) := by
  unfold noE ofE at h
  by_cases hk : 5 < m.kind
  · rw [if_pos hk] at h; exact absurd h (by decide)
  rw [if_neg hk] at h
  by_cases hl : lowF R m ≠ 0 ∨ highF R m ≤ ((faceS R m).over : Rat)
  · rw [if_pos hl] at h; exact absurd h (by decide)
  have h2 : ((faceS R m).over : Rat) < highF R m := Rat.not_le.1 (fun h => hl (.inr h))
  have hx : (rafOf R m).over = (faceS R m).over := rfl
  rw [rafOf_run', hx]
  grind

set_option maxRecDepth 100000 in
set_option maxHeartbeats 8000000 in
theorem deep_law (ro : Ro) (R : List (List Sd)) (hn : R.length ≤ 8796093022208) (hln : ∀ r ∈ R, r.length ≤ 8796093022208) (m : Mb) (sh : Str) (w : World) (hE : Env w) (hv : RgSl w ro.p.v R) :
    Calls Tryz.prog 5 #[.agg (roC ro).toArray, .agg (mbC m).toArray, .string ⟨sh.toArray⟩] w fun e w' => e = .returned (.bool true) ∧ Q w w' := by
  have HAw := Lib.hid (fun w hw => awake35 w hw)
  have HV := Lib.hid hv
  have HS : Hid (∀ W, Env W → Q w W → Calls Tryz.prog 7 #[.agg (roC ro).toArray, .agg (mbC m).toArray] W fun e w' => ∃ (s : Sd) (X Y : Str) (ok : Bool), e = .returned (.tuple #[.agg (sdC s).toArray, .string ⟨X.toArray⟩, .string ⟨Y.toArray⟩, .bool ok]) ∧ Q W w' ∧ (ok = true → ∃ n, SideOk R m n s X Y)) := Lib.hid (fun W hW hq => law_side ro R hn hln m W hW (hv.keep hq))
  have HD : Hid (∀ n s X Y, SideOk R m n s X Y → ∀ W, Env W → Q w W → Calls Tryz.prog 12 #[.agg (roC ro).toArray, .agg (mbC m).toArray] W fun e w' => e = .returned (.tuple #[.string ⟨(deepV R m).toArray⟩, .int .i64 (noE R m)]) ∧ Q W w') := Lib.hid (fun n s X Y h W hW hq => deep_any h ro W hW (hv.keep hq))
  have HK : Hid (∀ n s X Y, SideOk R m n s X Y → noE R m = 0 → ∀ q, NotchQ q → ∀ W, Env W → Q w W → ∀ (bp br bm bs : Nat) (t1 t2 t3 t4 : TypeId), Blk W bp [.string ⟨(rstr (rafOf R m).pitch).toArray⟩] t1 → Blk W br (roC ro) t2 → Blk W bm (mbC m) t3 → Blk W bs (sdC s) t4 →
      Calls Tryz.prog 16 #[.string ⟨(rstr q).toArray⟩, .pointer (some ⟨bp, 0, none⟩), .pointer (some ⟨br, 0, none⟩), .pointer (some ⟨bm, 0, none⟩), .pointer (some ⟨bs, 0, none⟩)] W fun e w' => e = .returned (.int .i64 (chkE (rafOf R m) q)) ∧ Q W w') := Lib.hid (fun n s X Y h h0 q hq W hW hqW bp br bm bs t1 t2 t3 t4 b1 b2 b3 b4 =>
    deep_check ro m (rafOf R m) h.bd q hq bp br bm bs s (by unfold rafOf; rw [h.face]) W hW (h.ofC h0 ro W (hv.keep hqW)) t1 t2 t3 t4 b1 b2 b3 b4)
  clear hn hln hv
  obtain ⟨⟨a0, n0, c0⟩, ⟨a1, n1, c1⟩, ⟨a2, n2, c2⟩, ⟨a3, n3, c3⟩⟩ := ro
  have e : mbC m = [.int .i64 m.kind, .int .i64 m.face, .int .i64 m.other, .string ⟨m.fx.toArray⟩, .string ⟨m.fy.toArray⟩, .string ⟨m.fz.toArray⟩, .string ⟨m.tx.toArray⟩, .string ⟨m.ty.toArray⟩, .string ⟨m.tz.toArray⟩, .int .i64 m.wid, .int .i64 m.dep] := rfl
  obtain ⟨ki, hki⟩ : ∃ x, x = m.kind := ⟨_, rfl⟩
  obtain ⟨fa, hfa⟩ : ∃ x, x = m.face := ⟨_, rfl⟩
  obtain ⟨ot, hot⟩ : ∃ x, x = m.other := ⟨_, rfl⟩
  obtain ⟨fx, hfx⟩ : ∃ x, x = m.fx := ⟨_, rfl⟩
  obtain ⟨fy, hfy⟩ : ∃ x, x = m.fy := ⟨_, rfl⟩
  obtain ⟨fz, hfz⟩ : ∃ x, x = m.fz := ⟨_, rfl⟩
  obtain ⟨tx, htx⟩ : ∃ x, x = m.tx := ⟨_, rfl⟩
  obtain ⟨ty, hty⟩ : ∃ x, x = m.ty := ⟨_, rfl⟩
  obtain ⟨tz, htz⟩ : ∃ x, x = m.tz := ⟨_, rfl⟩
  obtain ⟨wi, hwi⟩ : ∃ x, x = m.wid := ⟨_, rfl⟩
  obtain ⟨de, hde⟩ : ∃ x, x = m.dep := ⟨_, rfl⟩
  rw [← hki, ← hfa, ← hot, ← hfx, ← hfy, ← hfz, ← htx, ← hty, ← htz, ← hwi, ← hde] at e
  rw [e] at HS HD HK ⊢
  unfold roC Sl3.v at *
  simp only at HS HD HK HV ⊢
  clear e hki hfa hot hfx hfy hfz htx hty htz hwi hde
  have BR := (Blk.new w [.slice a0 n0 c0, .slice a1 n1 c1, .slice a2 n2 c2, .slice a3 n3 c3] 29).alloc (.cells #[.int .i64 ki, .int .i64 fa, .int .i64 ot, .string ⟨fx.toArray⟩, .string ⟨fy.toArray⟩, .string ⟨fz.toArray⟩, .string ⟨tx.toArray⟩, .string ⟨ty.toArray⟩, .string ⟨tz.toArray⟩, .int .i64 wi, .int .i64 de] 34)
  have BM0 := Blk.new1 w (.cells #[.slice a0 n0 c0, .slice a1 n1 c1, .slice a2 n2 c2, .slice a3 n3 c3] 29) [.int .i64 ki, .int .i64 fa, .int .i64 ot, .string ⟨fx.toArray⟩, .string ⟨fy.toArray⟩, .string ⟨fz.toArray⟩, .string ⟨tx.toArray⟩, .string ⟨ty.toArray⟩, .string ⟨tz.toArray⟩, .int .i64 wi, .int .i64 de] 34
  obtain ⟨W0, hW0⟩ : ∃ W0, (w.alloc (.cells #[.slice a0 n0 c0, .slice a1 n1 c1, .slice a2 n2 c2, .slice a3 n3 c3] 29)).alloc (.cells #[.int .i64 ki, .int .i64 fa, .int .i64 ot, .string ⟨fx.toArray⟩, .string ⟨fy.toArray⟩, .string ⟨fz.toArray⟩, .string ⟨tx.toArray⟩, .string ⟨ty.toArray⟩, .string ⟨tz.toArray⟩, .int .i64 wi, .int .i64 de] 34) = W0 := ⟨_, rfl⟩
  have hq0 : Q w W0 := by rw [← hW0]; exact bt
  have hEw := hE.ofQ hq0
  rw [hW0] at BR
  have BM : Blk W0 (w.heap.size + 1) [.int .i64 ki, .int .i64 fa, .int .i64 ot, .string ⟨fx.toArray⟩, .string ⟨fy.toArray⟩, .string ⟨fz.toArray⟩, .string ⟨tx.toArray⟩, .string ⟨ty.toArray⟩, .string ⟨tz.toArray⟩, .int .i64 wi, .int .i64 de] 34 := by rw [← hW0]; exact BM0
  clear hE BM0
  have hE := hEw
  clear hEw
  have hQ0 := Q.refl W0
  replace r0 := BR.cell 0
  replace r1 := BR.cell 1
  replace r2 := BR.cell 2
  replace r3 := BR.cell 3
  simp only [List.getElem?_cons_zero, List.getElem?_cons_succ] at r0 r1 r2 r3
  replace lBR := BR.lt
  replace m0 := BM.cell 0
  replace m1 := BM.cell 1
  replace m2 := BM.cell 2
  replace m3 := BM.cell 3
  replace m4 := BM.cell 4
  replace m5 := BM.cell 5
  replace m6 := BM.cell 6
  replace m7 := BM.cell 7
  replace m8 := BM.cell 8
  replace m9 := BM.cell 9
  replace m10 := BM.cell 10
  simp only [List.getElem?_cons_zero, List.getElem?_cons_succ] at m0 m1 m2 m3 m4 m5 m6 m7 m8 m9 m10
  replace lBM := BM.lt
  go_enter Tryz.func5, Tryz.ntmps5
  go_wp2_with fail
  clear hW0
  go_wp2_with fail
  refine (HS.out _ (hE.ofQ bt) hq0).mono ?_
  rintro e Y1 ⟨s, X, Y, ok, rfl, hq1, hok⟩
  have hs1 : Q W0 Y1 := Q.trans bt hq1
  have hQ1 : Q W0 Y1 := Q.trans hQ0 hs1
  replace BR := BR.keep hs1 BR.lt
  replace r0 := BR.cell 0
  replace r1 := BR.cell 1
  replace r2 := BR.cell 2
  replace r3 := BR.cell 3
  simp only [List.getElem?_cons_zero, List.getElem?_cons_succ] at r0 r1 r2 r3
  replace lBR := BR.lt
  replace BM := BM.keep hs1 BM.lt
  replace m0 := BM.cell 0
  replace m1 := BM.cell 1
  replace m2 := BM.cell 2
  replace m3 := BM.cell 3
  replace m4 := BM.cell 4
  replace m5 := BM.cell 5
  replace m6 := BM.cell 6
  replace m7 := BM.cell 7
  replace m8 := BM.cell 8
  replace m9 := BM.cell 9
  replace m10 := BM.cell 10
  simp only [List.getElem?_cons_zero, List.getElem?_cons_succ] at m0 m1 m2 m3 m4 m5 m6 m7 m8 m9 m10
  replace lBM := BM.lt
  clear HS
  have HOK := Lib.hid hok
  clear hok
  have BS := Blk.new Y1 [.int .i64 0, .int .i64 0, .int .i64 0, .int .i64 0, .bool false, .int .i64 0, .int .i64 0] 36
  have hqS : Q Y1 ((Y1.alloc (.cells ([.int .i64 0, .int .i64 0, .int .i64 0, .int .i64 0, .bool false, .int .i64 0, .int .i64 0] : List Value).toArray 36)).setRow Y1.heap.size (sdC s).toArray) := below_setRow ((Below.refl _ Y1).alloc (Nat.le_refl _) _) (Nat.le_refl _) _
  have BSs : Blk ((Y1.alloc (.cells ([.int .i64 0, .int .i64 0, .int .i64 0, .int .i64 0, .bool false, .int .i64 0, .int .i64 0] : List Value).toArray 36)).setRow Y1.heap.size (sdC s).toArray) Y1.heap.size (sdC s) 36 := setRow_heap _ _ _ _ _ _ BS
  have hs7 : ∀ v ∈ sdC s, v.oneCell' = true := fun v hv => sdC_one (r := [s]) v (by unfold rowOf; simpa using hv)
  obtain ⟨W2, hW2⟩ : ∃ W2, (Y1.alloc (.cells ([.int .i64 0, .int .i64 0, .int .i64 0, .int .i64 0, .bool false, .int .i64 0, .int .i64 0] : List Value).toArray 36)).setRow Y1.heap.size (sdC s).toArray = W2 := ⟨_, rfl⟩
  rw [hW2] at hqS BSs
  have hw2 : Q w W2 := Q.trans hq0 (Q.trans hQ1 hqS)
  have hE2 := hE.ofQ (Q.trans hQ1 hqS)
  replace BR := BR.keep hqS BR.lt
  replace BM := BM.keep hqS BM.lt
  clear hE
  have hE := hE2
  clear hE2 r0 r1 r2 r3 m0 m1 m2 m3 m4 m5 m6 m7 m8 m9 m10 lBR lBM
  cases ok
  case false =>
    clear HOK HD HK HV
    go_wp2_with (refine wpList_store_blk rfl 36 _ _ rfl Y1.heap.size BS (sdC s) rfl rfl rfl (by kernel_rfl) hs7 ?_; rw [hW2])
    clear hW2
    refine (HAw.out _ hE).mono ?_
    rintro e we ⟨rfl, hqe⟩
    have hQe := Q.trans (hw2) hqe
    go_wp2
    go_ret
    exact ⟨rfl, hQe⟩
  by_cases hl : 20 < sh.length
  case pos =>
    have hld : decide ((20 : Int) < (sh.length : Int)) = true := by rw [decide_eq_true_eq]; omega
    clear HOK HD HK HV
    go_wp2_with (refine wpList_store_blk rfl 36 _ _ rfl Y1.heap.size BS (sdC s) rfl rfl rfl (by kernel_rfl) hs7 ?_; rw [hW2])
    clear hW2
    refine (HAw.out _ hE).mono ?_
    rintro e we ⟨rfl, hqe⟩
    have hQe := Q.trans (hw2) hqe
    go_wp2
    go_ret
    exact ⟨rfl, hQe⟩
  have hld : decide ((20 : Int) < (sh.length : Int)) = false := by rw [decide_eq_false_iff_not]; omega
  have HCk := Lib.hid (fun w hw => rational_Check sh (by omega) w hw)
  by_cases hr : rchk sh = 0
  case neg =>
    have hrb : (rchk sh != 0) = true := by rw [bne_iff_ne]; exact hr
    clear HOK HD HK HV
    generalize rchk sh = E at *
    go_wp2_with (refine wpList_store_blk rfl 36 _ _ rfl Y1.heap.size BS (sdC s) rfl rfl rfl (by kernel_rfl) hs7 ?_; rw [hW2])
    clear hW2
    refine (HCk.out _ hE).mono ?_
    rintro e V1 ⟨rfl, hv1⟩
    have hE1 := hE.ofQ hv1
    have hw3 := Q.trans hw2 hv1
    clear hl hr
    go_wp2_with fail
    refine (HAw.out _ hE1).mono ?_
    rintro e we ⟨rfl, hqe⟩
    have hQe := Q.trans (hw3) hqe
    go_wp2
    go_ret
    exact ⟨rfl, hQe⟩
  rw [hr] at HCk
  have hne : sh ≠ [] := fun e => by rw [e] at hr; exact absurd hr (by decide)
  obtain ⟨hst, hsl⟩ := rstr_rval hr
  have bt' := rval_bdn hr (show sh.length ≤ 20 by omega) (by decide)
  have hneg : (sh.head? = some 45) ↔ (rval sh).num < 0 := by
    have := rstr_head (rval sh)
    rw [hst] at this
    exact this
  have hzer : sh = [48] → rval sh = 0 := fun h => rstr_inj (by rw [hst, rstr_zero, h])
  generalize rval sh = t at *
  clear hr hsl
  rcases sh with _ | ⟨c, cs⟩
  · clear HOK HD HK HV HCk hld hl
    exact absurd rfl hne
  have hl3 : ¬ ((20 : Int) < (cs.length : Int) + 1) := by simp only [List.length_cons] at hl; omega
  have hl4 : decide ((20 : Int) < (cs.length : Int) + 1) = false := decide_eq_false hl3
  clear hl hld
  by_cases hm45 : c = 45
  case pos =>
    subst hm45
    clear HOK HD HK HV
    go_wp2_with (refine wpList_store_blk rfl 36 _ _ rfl Y1.heap.size BS (sdC s) rfl rfl rfl (by kernel_rfl) hs7 ?_; rw [hW2])
    clear hW2
    refine (HCk.out _ hE).mono ?_
    rintro e V1 ⟨rfl, hv1⟩
    have hE1 := hE.ofQ hv1
    have hw3 := Q.trans hw2 hv1
    go_wp2_with fail
    refine (HAw.out _ hE1).mono ?_
    rintro e we ⟨rfl, hqe⟩
    have hQe := Q.trans (hw3) hqe
    go_wp2
    go_ret
    exact ⟨rfl, hQe⟩
  have hcb : (c == 45) = false := by rw [beq_eq_false_iff_ne]; exact hm45
  have hcn : ¬ ((c.toNat : Int) = 45) := fun h => hm45 (UInt8.toNat_inj.1 (by rw [show c.toNat = 45 by omega]; rfl))
  have hcn2 : ((c.toNat : Int) == 45) = false := by rw [beq_eq_false_iff_ne]; exact hcn
  by_cases h48 : c :: cs = [48]
  case pos =>
    have h48b : ((c :: cs : Str) == [48]) = true := by rw [h48]; rfl
    obtain ⟨rfl, rfl⟩ := List.cons.inj h48
    clear HOK HD HK HV hzer
    go_wp2_with (refine wpList_store_blk rfl 36 _ _ rfl Y1.heap.size BS (sdC s) rfl rfl rfl (by kernel_rfl) hs7 ?_; rw [hW2])
    clear hW2
    refine (HCk.out _ hE).mono ?_
    rintro e V1 ⟨rfl, hv1⟩
    have hE1 := hE.ofQ hv1
    have hw3 := Q.trans hw2 hv1
    go_wp2_with fail
    refine (HAw.out _ hE1).mono ?_
    rintro e we ⟨rfl, hqe⟩
    have hQe := Q.trans (hw3) hqe
    go_wp2
    go_ret
    exact ⟨rfl, hQe⟩
  have h48b : ((c :: cs : Str) == [48]) = false := by rw [beq_eq_false_iff_ne]; exact h48
  have ht0 : 0 < t := by
    have h1 : 0 ≤ t.num := by
      rcases Int.lt_or_le t.num 0 with h | h
      · have := hneg.2 h
        simp at this
        exact absurd this hm45
      · exact h
    have h2 : t ≠ 0 := fun e => h48 (by rw [← hst, e, rstr_zero])
    refine (num_pos_iff _).2 ?_
    have h3 : t.num ≠ 0 := fun e => h2 (Rat.num_eq_zero.1 e)
    omega
  obtain ⟨n, ho⟩ := HOK.out rfl
  have HD1 := Lib.hid (HD.out n s X Y ho)
  have HST := Lib.hid hst
  have HHD := Lib.hid (HK.out n s X Y ho)
  have HBT := Lib.hid bt'
  have hdl : (deepV R m) = deepV R m := rfl
  clear hneg hzer hst bt' h48 hm45 hne hdl HOK HD HK
  have hQ0 := Q.refl W2
  replace r0 := BR.cell 0
  replace r1 := BR.cell 1
  replace r2 := BR.cell 2
  replace r3 := BR.cell 3
  simp only [List.getElem?_cons_zero, List.getElem?_cons_succ] at r0 r1 r2 r3
  replace lBR := BR.lt
  replace m0 := BM.cell 0
  replace m1 := BM.cell 1
  replace m2 := BM.cell 2
  replace m3 := BM.cell 3
  replace m4 := BM.cell 4
  replace m5 := BM.cell 5
  replace m6 := BM.cell 6
  replace m7 := BM.cell 7
  replace m8 := BM.cell 8
  replace m9 := BM.cell 9
  replace m10 := BM.cell 10
  simp only [List.getElem?_cons_zero, List.getElem?_cons_succ] at m0 m1 m2 m3 m4 m5 m6 m7 m8 m9 m10
  replace lBM := BM.lt
  go_wp2_with (refine wpList_store_blk rfl 36 _ _ rfl Y1.heap.size BS (sdC s) rfl rfl rfl (by kernel_rfl) hs7 ?_; rw [hW2])
  clear hW2
  refine (HCk.out _ hE).mono ?_
  rintro e V1 ⟨rfl, hv1⟩
  have hE1 := hE.ofQ hv1
  have hw3 := Q.trans hw2 hv1
  replace BR := BR.keep hv1 BR.lt
  replace BM := BM.keep hv1 BM.lt
  have S := BSs.keep hv1 BSs.lt
  clear hE HCk r0 r1 r2 r3 m0 m1 m2 m3 m4 m5 m6 m7 m8 m9 m10 lBR lBM BSs BS hqS
  have hE := hE1
  clear hE1
  have hrg := ho.rg
  have hrn := hrg.n ho.ng
  have hbd := ho.bd
  have hxp : (rafOf R m).pitch = Rat.divInt s.rise s.run := by unfold rafOf; rw [ho.face]
  obtain ⟨u, hu⟩ := Int.eq_ofNat_of_zero_le (show 0 ≤ s.run by omega)
  have HOf : Hid (∀ w, Env w → Calls Tryz.prog 15 #[.int .i64 s.rise, .int .i64 s.run] w fun e w' => e = .returned (.tuple #[.string ⟨(rstr (rafOf R m).pitch).toArray⟩, .int .i64 0]) ∧ Q w w') := Lib.hid (fun w hw => by
    rw [hxp, hu]
    exact rational_Of_short s.rise u (by omega) (by omega) (by omega) w hw)
  have hst := HST.out
  clear HST
  by_cases h0 : noE R m = 0
  case neg =>
    have hzb : (noE R m != 0) = true := by rw [bne_iff_ne]; exact h0
    generalize noE R m = E at *
    generalize deepV R m = DV at *
    clear HHD HBT HOf hxp hbd hrn hrg ho
    have hQ0 := Q.refl V1
    replace r0 := BR.cell 0
    replace r1 := BR.cell 1
    replace r2 := BR.cell 2
    replace r3 := BR.cell 3
    simp only [List.getElem?_cons_zero, List.getElem?_cons_succ] at r0 r1 r2 r3
    replace lBR := BR.lt
    replace m0 := BM.cell 0
    replace m1 := BM.cell 1
    replace m2 := BM.cell 2
    replace m3 := BM.cell 3
    replace m4 := BM.cell 4
    replace m5 := BM.cell 5
    replace m6 := BM.cell 6
    replace m7 := BM.cell 7
    replace m8 := BM.cell 8
    replace m9 := BM.cell 9
    replace m10 := BM.cell 10
    simp only [List.getElem?_cons_zero, List.getElem?_cons_succ] at m0 m1 m2 m3 m4 m5 m6 m7 m8 m9 m10
    replace lBM := BM.lt
    go_wp2_with fail
    refine (HD1.out _ hE hw3).mono ?_
    rintro e T1 ⟨rfl, ht1⟩
    have hE1 := hE.ofQ ht1
    have hw4 := Q.trans hw3 ht1
    go_wp2_with fail
    refine (HAw.out _ hE1).mono ?_
    rintro e we ⟨rfl, hqe⟩
    have hQe := Q.trans (hw4) hqe
    go_wp2
    go_ret
    exact ⟨rfl, hQe⟩
  have hdv : deepV R m = rstr (deepQ R m) := by unfold deepV; rw [if_pos h0]
  rw [hdv, h0] at HD1
  obtain ⟨hd0, hcomb⟩ := deep_math hbd (y := deepY R m) (d := deepQ R m) (t := t) rfl rfl (room_pos h0)
  have bdq : Bd 43 (deepQ R m) := by
    unfold deepQ
    split
    · exact hbd.r.less hbd.ov
    · exact (deepY_bd hbd).mono (by decide)
  have bt := HBT.out
  have HK1 := Lib.hid (HHD.out h0 (deepQ R m) ⟨bdq.mono (by decide), hd0⟩)
  have HK2 := Lib.hid (HHD.out h0 (deepQ R m * t) ⟨bdq.mul bt, Rat.mul_pos hd0 ht0⟩)
  have HMu := Lib.hid (fun w hw => rational_Mul_bd (deepQ R m) t bdq bt (by decide) w hw)
  have b1 : Bd 1 (1 : Rat) := bd_one
  have HCm := Lib.hid (fun w hw => rational_Compare t 1 (bt.rlim (by decide)) (b1.rlim (by decide)) (lim_bd (cross_lt bt b1) (by decide)) (lim_bd (cross_lt b1 bt) (by decide)) w hw)
  have eo : Lib.compareInt (t.num * ((1 : Rat).den : Int)) ((1 : Rat).num * (t.den : Int)) = ordF t 1 := rfl
  rw [eo, rstr_one] at HCm
  rw [hst] at HCm HMu
  clear HHD HBT hdv h0 hd0 bdq bt b1 eo hst hxp hbd hrn hrg ho ht0 hu
  generalize ordF t 1 = nn at *
  generalize chkE (rafOf R m) (deepQ R m) = XX at *
  generalize chkE (rafOf R m) (deepQ R m * t) = YY at *
  generalize rstr (deepQ R m * t) = DT at *
  generalize rstr (deepQ R m) = DS at *
  generalize rstr (rafOf R m).pitch = PI at *
  have s2 : V1.cell? ⟨Y1.heap.size, 2, none⟩ = some (.int .i64 s.rise) := S.cell 2
  have s3 : V1.cell? ⟨Y1.heap.size, 3, none⟩ = some (.int .i64 s.run) := S.cell 3
  have hQ0 := Q.refl V1
  replace r0 := BR.cell 0
  replace r1 := BR.cell 1
  replace r2 := BR.cell 2
  replace r3 := BR.cell 3
  simp only [List.getElem?_cons_zero, List.getElem?_cons_succ] at r0 r1 r2 r3
  replace lBR := BR.lt
  replace m0 := BM.cell 0
  replace m1 := BM.cell 1
  replace m2 := BM.cell 2
  replace m3 := BM.cell 3
  replace m4 := BM.cell 4
  replace m5 := BM.cell 5
  replace m6 := BM.cell 6
  replace m7 := BM.cell 7
  replace m8 := BM.cell 8
  replace m9 := BM.cell 9
  replace m10 := BM.cell 10
  simp only [List.getElem?_cons_zero, List.getElem?_cons_succ] at m0 m1 m2 m3 m4 m5 m6 m7 m8 m9 m10
  replace lBM := BM.lt
  go_wp2_with fail
  refine (HD1.out _ hE hw3).mono ?_
  rintro e T1 ⟨rfl, hq1⟩
  have hs1 : Q V1 T1 := Q.trans bt hq1
  have hQ1 : Q V1 T1 := Q.trans hQ0 hs1
  replace s2 := cellK s2 hs1
  replace s3 := cellK s3 hs1
  replace S := BlkK S hs1
  replace BR := BR.keep hs1 BR.lt
  replace r0 := BR.cell 0
  replace r1 := BR.cell 1
  replace r2 := BR.cell 2
  replace r3 := BR.cell 3
  simp only [List.getElem?_cons_zero, List.getElem?_cons_succ] at r0 r1 r2 r3
  replace lBR := BR.lt
  replace BM := BM.keep hs1 BM.lt
  replace m0 := BM.cell 0
  replace m1 := BM.cell 1
  replace m2 := BM.cell 2
  replace m3 := BM.cell 3
  replace m4 := BM.cell 4
  replace m5 := BM.cell 5
  replace m6 := BM.cell 6
  replace m7 := BM.cell 7
  replace m8 := BM.cell 8
  replace m9 := BM.cell 9
  replace m10 := BM.cell 10
  simp only [List.getElem?_cons_zero, List.getElem?_cons_succ] at m0 m1 m2 m3 m4 m5 m6 m7 m8 m9 m10
  replace lBM := BM.lt
  go_wp2_with fail
  refine (HOf.out _ (hE.ofQ bt)).mono ?_
  rintro e T2 ⟨rfl, hq2⟩
  have hs2 : Q T1 T2 := Q.trans bt hq2
  have hQ2 : Q V1 T2 := Q.trans hQ1 hs2
  replace s2 := cellK s2 hs2
  replace s3 := cellK s3 hs2
  replace S := BlkK S hs2
  replace BR := BR.keep hs2 BR.lt
  replace r0 := BR.cell 0
  replace r1 := BR.cell 1
  replace r2 := BR.cell 2
  replace r3 := BR.cell 3
  simp only [List.getElem?_cons_zero, List.getElem?_cons_succ] at r0 r1 r2 r3
  replace lBR := BR.lt
  replace BM := BM.keep hs2 BM.lt
  replace m0 := BM.cell 0
  replace m1 := BM.cell 1
  replace m2 := BM.cell 2
  replace m3 := BM.cell 3
  replace m4 := BM.cell 4
  replace m5 := BM.cell 5
  replace m6 := BM.cell 6
  replace m7 := BM.cell 7
  replace m8 := BM.cell 8
  replace m9 := BM.cell 9
  replace m10 := BM.cell 10
  simp only [List.getElem?_cons_zero, List.getElem?_cons_succ] at m0 m1 m2 m3 m4 m5 m6 m7 m8 m9 m10
  replace lBM := BM.lt
  have P := Blk.new T2 [.string ⟨PI.toArray⟩] 30
  have hqn : Q T2 (T2.alloc (.cells ([.string ⟨PI.toArray⟩] : List Value).toArray 30)) := (Below.refl _ T2).alloc (Nat.le_refl _) _
  obtain ⟨W3, hW3⟩ : ∃ W3, T2.alloc (.cells #[.string ⟨PI.toArray⟩] 30) = W3 := ⟨_, rfl⟩
  have hW3' : T2.alloc (.cells ([.string ⟨PI.toArray⟩] : List Value).toArray 30) = W3 := hW3
  rw [hW3'] at P hqn
  clear hW3'
  have hw4 := Q.trans hw3 (Q.trans hQ2 hqn)
  have hE4 := hE.ofQ (Q.trans hQ2 hqn)
  replace BR := BR.keep hqn BR.lt
  replace BM := BM.keep hqn BM.lt
  replace S := BlkK S hqn
  clear hE r0 r1 r2 r3 m0 m1 m2 m3 m4 m5 m6 m7 m8 m9 m10 lBR lBM s2 s3 HD1 HOf
  have hE := hE4
  clear hE4
  have hQ0 := Q.refl W3
  go_wp2_with fail
  clear hW3
  refine (HMu.out _ hE).mono ?_
  rintro e U1 ⟨rfl, hu1⟩
  replace BR := BlkK BR hu1
  replace BM := BlkK BM hu1
  replace S := BlkK S hu1
  replace P := BlkK P hu1
  have hw5 := Q.trans hw4 hu1
  have hE5 := hE.ofQ hu1
  clear hE
  have hE := hE5
  clear hE5
  have hQ0 := Q.refl U1
  go_wp2_with fail
  refine (HCm.out _ (hE.ofQ bt)).mono ?_
  rintro e Z1 ⟨rfl, hq1⟩
  have hs1 : Q U1 Z1 := Q.trans bt hq1
  have hQ1 : Q U1 Z1 := Q.trans hQ0 hs1
  replace BR := BlkK BR hs1
  replace BM := BlkK BM hs1
  replace S := BlkK S hs1
  replace P := BlkK P hs1
  go_wp2_with fail
  refine (HK1.out _ (hE.ofQ bt) (Q.trans hw5 hQ1) _ _ _ _ _ _ _ _ P BR BM S).mono ?_
  rintro e Z2 ⟨rfl, hq2⟩
  have hs2 : Q Z1 Z2 := Q.trans bt hq2
  have hQ2 : Q U1 Z2 := Q.trans hQ1 hs2
  replace BR := BlkK BR hs2
  replace BM := BlkK BM hs2
  replace S := BlkK S hs2
  replace P := BlkK P hs2
  go_wp2_with fail
  refine (HK2.out _ (hE.ofQ bt) (Q.trans hw5 hQ2) _ _ _ _ _ _ _ _ P BR BM S).mono ?_
  rintro e Z3 ⟨rfl, hq3⟩
  have hs3 : Q Z2 Z3 := Q.trans bt hq3
  have hQ3 : Q U1 Z3 := Q.trans hQ2 hs3
  replace BR := BlkK BR hs3
  replace BM := BlkK BM hs3
  replace S := BlkK S hs3
  replace P := BlkK P hs3
  have hwZ := Q.trans hw5 hQ3
  have hEZ := hE.ofQ hQ3
  clear HK1 HK2 HCm HMu BR BM S P
  rcases hcomb with rfl | ⟨rfl, rfl | rfl | rfl⟩ | ⟨rfl, rfl, rfl⟩ | ⟨rfl, rfl, rfl⟩ | ⟨rfl, rfl, rfl⟩ | ⟨rfl, rfl, rfl⟩
  all_goals
    go_wp2_with fail
    refine (HAw.out _ hEZ).mono ?_
    rintro e we ⟨rfl, hqe⟩
    have hQe := Q.trans hwZ hqe
    go_wp2
    go_ret
    exact ⟨rfl, hQe⟩

end Go.Proofs.YtlbjjkmfcgcodaaGreatDoor
