/-
  Walks of package joint: where there is no birdsmouth.; What Birdsmouth and Deepest answer of a member at its side.; Walks of package rational: the sums of a list, Sum.; Walks of package joint: the checks of a notch, notched.
-/
import Derived.Test.YtlbjjkmfcgcodaaGreatDoorG18
import Derived.Test.YtlbjjkmfcgcodaaGreatDoorRS
import Derived.Test.YtlbjjkmfcgcodaaGreatDoorG17
namespace Go.Proofs.YtlbjjkmfcgcodaaGreatDoor
open Go.RowKit Go.Shelf Kp
attribute [local go_sem] Oper.semAt_some
set_option maxRecDepth 100000 in
set_option maxHeartbeats 4000000 in
theorem joint_of_kind (R : List (List Sd)) (h : planE R = 0) (hR : R.length ≤ 1000) (m : Mb) (hs : m.short) (hm : hipE m = 0) (hk : 5 < m.kind) (v : Value) (p1 p2 p3 : Option Addr) (l1 l2 l3 k1 k2 k3 : Nat) (w : World) (hE : Env w) (hv : RgSl w v R) :
    Calls Tryz.prog 31 #[.agg #[v, .slice p1 l1 k1, .slice p2 l2 k2, .slice p3 l3 k3], .agg (mbC m).toArray] w fun e w' => e = .returned (.tuple #[.agg rafZ.toArray, .int .i64 8]) ∧ Q w w' := by
  have HS1 : Hid (∀ W, Q w W → Calls Tryz.prog 26 #[.agg #[v]] W fun e w' => ∃ v', e = .returned (.tuple #[v', .int .i64 0]) ∧ Q W w' ∧ RowSl 7 sdC w' v' R.flatten) := Lib.hid (fun W hq => plan_Sides R h hR v W (hv.keep hq))
  have HH : Hid (∀ w, Env w → Calls Tryz.prog 25 #[.agg (mbC m).toArray] w fun e w' => e = .returned (.int .i64 0) ∧ Q w w') := Lib.hid (fun w hw => by have := hip_Check_any m hs w hw; rw [hm] at this; exact this)
  unfold rafZ
  obtain ⟨a0, cap0, rfl, -⟩ := hv
  clear hm hs h hR
  generalize R.flatten = r at *
  generalize R.length = rn at *
  obtain ⟨ki, fa, ot, fx, fy, fz, tx, ty, tz, wi, de⟩ := m
  simp only at hk
  unfold mbC at *
  simp only at HH ⊢
  have hkz : decide ((5 : Int) < ki) = true := by rw [decide_eq_true_eq]; omega
  have BR := ((Blk.new w [.slice a0 rn cap0, .slice p1 l1 k1, .slice p2 l2 k2, .slice p3 l3 k3] 29).alloc (.cells #[.int .i64 ki, .int .i64 fa, .int .i64 ot, .string ⟨fx.toArray⟩, .string ⟨fy.toArray⟩, .string ⟨fz.toArray⟩, .string ⟨tx.toArray⟩, .string ⟨ty.toArray⟩, .string ⟨tz.toArray⟩, .int .i64 wi, .int .i64 de] 34)).alloc (.cells #[.int .i64 0, .string ⟨#[]⟩, .string ⟨#[]⟩, .string ⟨#[]⟩] 85)
  have BM := (Blk.new1 w (.cells #[.slice a0 rn cap0, .slice p1 l1 k1, .slice p2 l2 k2, .slice p3 l3 k3] 29) [.int .i64 ki, .int .i64 fa, .int .i64 ot, .string ⟨fx.toArray⟩, .string ⟨fy.toArray⟩, .string ⟨fz.toArray⟩, .string ⟨tx.toArray⟩, .string ⟨ty.toArray⟩, .string ⟨tz.toArray⟩, .int .i64 wi, .int .i64 de] 34).alloc (.cells #[.int .i64 0, .string ⟨#[]⟩, .string ⟨#[]⟩, .string ⟨#[]⟩] 85)
  have BZ := Blk.new2 w (.cells #[.slice a0 rn cap0, .slice p1 l1 k1, .slice p2 l2 k2, .slice p3 l3 k3] 29) (.cells #[.int .i64 ki, .int .i64 fa, .int .i64 ot, .string ⟨fx.toArray⟩, .string ⟨fy.toArray⟩, .string ⟨fz.toArray⟩, .string ⟨tx.toArray⟩, .string ⟨ty.toArray⟩, .string ⟨tz.toArray⟩, .int .i64 wi, .int .i64 de] 34) [.int .i64 0, .string ⟨#[]⟩, .string ⟨#[]⟩, .string ⟨#[]⟩] 85
  obtain ⟨W0, hW0⟩ : ∃ W0, ((w.alloc (.cells #[.slice a0 rn cap0, .slice p1 l1 k1, .slice p2 l2 k2, .slice p3 l3 k3] 29)).alloc (.cells #[.int .i64 ki, .int .i64 fa, .int .i64 ot, .string ⟨fx.toArray⟩, .string ⟨fy.toArray⟩, .string ⟨fz.toArray⟩, .string ⟨tx.toArray⟩, .string ⟨ty.toArray⟩, .string ⟨tz.toArray⟩, .int .i64 wi, .int .i64 de] 34)).alloc (.cells #[.int .i64 0, .string ⟨#[]⟩, .string ⟨#[]⟩, .string ⟨#[]⟩] 85) = W0 := ⟨_, rfl⟩
  have hq0 : Q w W0 := by rw [← hW0]; exact bt
  have hs0 : W0.heap.size = w.heap.size + 3 := by rw [← hW0]; simp
  have hEw := hE.ofQ hq0
  rw [hW0] at BR BM
  have BZ : Blk W0 (w.heap.size + 2) [.int .i64 0, .string ⟨#[]⟩, .string ⟨#[]⟩, .string ⟨#[]⟩] 85 := by rw [← hW0]; exact BZ
  clear hE
  have hE := hEw
  clear hEw
  have hQ0 := Q.refl W0
  replace r0 := BR.cell 0
  simp only [List.getElem?_cons_zero] at r0
  replace lBR := BR.lt
  replace m0 := BM.cell 0
  replace m1 := BM.cell 1
  replace m2 := BM.cell 2
  replace m3 := BM.cell 3
  replace m4 := BM.cell 4
  replace m5 := BM.cell 5
  replace m6 := BM.cell 6
  replace m7 := BM.cell 7
  replace m8 := BM.cell 8
  replace m9 := BM.cell 9
  replace m10 := BM.cell 10
  simp only [List.getElem?_cons_zero, List.getElem?_cons_succ] at m0 m1 m2 m3 m4 m5 m6 m7 m8 m9 m10
  replace lBM := BM.lt
  go_enter Tryz.func31, Tryz.ntmps31
  go_wp2_with fail
  clear hW0
  go_wp2_with fail
  refine (HS1.out _ hq0).mono ?_
  rintro e Y1 ⟨vs, rfl, hq1, hrow⟩
  have hs1 : Q W0 Y1 := Q.trans bt hq1
  have hQ1 : Q W0 Y1 := Q.trans hQ0 hs1
  replace BZ := BlkK BZ hs1
  replace BR := BR.keep hs1 BR.lt
  replace r0 := BR.cell 0
  simp only [List.getElem?_cons_zero] at r0
  replace lBR := BR.lt
  replace BM := BM.keep hs1 BM.lt
  replace m0 := BM.cell 0
  replace m1 := BM.cell 1
  replace m2 := BM.cell 2
  replace m3 := BM.cell 3
  replace m4 := BM.cell 4
  replace m5 := BM.cell 5
  replace m6 := BM.cell 6
  replace m7 := BM.cell 7
  replace m8 := BM.cell 8
  replace m9 := BM.cell 9
  replace m10 := BM.cell 10
  simp only [List.getElem?_cons_zero, List.getElem?_cons_succ] at m0 m1 m2 m3 m4 m5 m6 m7 m8 m9 m10
  replace lBM := BM.lt
  obtain ⟨a, cap, rfl, -⟩ := id hrow
  clear hrow HS1
  go_wp2_with fail
  refine (HH.out _ (hE.ofQ bt)).mono ?_
  rintro e Y2 ⟨rfl, hq2⟩
  have hs2 : Q Y1 Y2 := Q.trans bt hq2
  have hQ2 : Q W0 Y2 := Q.trans hQ1 hs2
  replace BZ := BlkK BZ hs2
  replace BR := BR.keep hs2 BR.lt
  replace r0 := BR.cell 0
  simp only [List.getElem?_cons_zero] at r0
  replace lBR := BR.lt
  replace BM := BM.keep hs2 BM.lt
  replace m0 := BM.cell 0
  replace m1 := BM.cell 1
  replace m2 := BM.cell 2
  replace m3 := BM.cell 3
  replace m4 := BM.cell 4
  replace m5 := BM.cell 5
  replace m6 := BM.cell 6
  replace m7 := BM.cell 7
  replace m8 := BM.cell 8
  replace m9 := BM.cell 9
  replace m10 := BM.cell 10
  simp only [List.getElem?_cons_zero, List.getElem?_cons_succ] at m0 m1 m2 m3 m4 m5 m6 m7 m8 m9 m10
  replace lBM := BM.lt
  have HQz := Q.trans hq0 hQ2
  replace BZ := BlkK BZ (Q.refl Y2)
  have z0 := BZ.cell 0
  have z1 := BZ.cell 1
  have z2 := BZ.cell 2
  have z3 := BZ.cell 3
  simp only [List.getElem?_cons_zero, List.getElem?_cons_succ] at z0 z1 z2 z3
  have y0 := BZ.frozen 0
  have y1 := BZ.frozen 1
  have y2 := BZ.frozen 2
  have y3 := BZ.frozen 3
  have hbz : w.heap.size ≤ w.heap.size + 2 := by omega
  have Zf := (((BZ.set 0 (.int .i64 0)).set 1 (.string ⟨#[]⟩)).set 2 (.string ⟨#[]⟩)).set 3 (.string ⟨#[]⟩)
  simp only [List.set_cons_zero, List.set_cons_succ] at Zf
  have hQe := (((HQz.setCell (p := ⟨w.heap.size + 2, 0, none⟩) hbz (.int .i64 0)).setCell (p := ⟨w.heap.size + 2, 1, none⟩) hbz (.string ⟨#[]⟩)).setCell (p := ⟨w.heap.size + 2, 2, none⟩) hbz (.string ⟨#[]⟩)).setCell (p := ⟨w.heap.size + 2, 3, none⟩) hbz (.string ⟨#[]⟩)
  have hbe : w.heap.size + 1 + 1 = w.heap.size + 2 := rfl
  clear HH
  go_wp2_with (exact bodyPost_ret (results_raf Zf Tryz.f31 rfl _ rfl rfl) rfl ⟨rfl, hQe⟩)
def OfE (w : World) (ro : Ro) (m : Mb) (E : Int) : Prop := ∀ W, Env W → Q w W → Calls Tryz.prog 31 #[.agg (roC ro).toArray, .agg (mbC m).toArray] W fun e w' => e = .returned (.tuple #[.agg rafZ.toArray, .int .i64 E]) ∧ Q W w'
set_option maxRecDepth 100000 in
set_option maxHeartbeats 4000000 in
theorem joint_Birdsmouth_no (ro : Ro) (m : Mb) (E s : Int) (h0 : E ≠ 0) (w : World) (hE : Env w) (hof : OfE w ro m E) :
    Calls Tryz.prog 9 #[.agg (roC ro).toArray, .agg (mbC m).toArray, .int .i64 s] w fun e w' => e = .returned (.tuple #[.agg #[.string ⟨#[]⟩, .string ⟨#[]⟩, .string ⟨#[]⟩], .int .i64 E]) ∧ Q w w' := by
  have HO := Lib.hid hof
  clear hof
  have hb : (E == 0) = false := by rw [beq_eq_false_iff_ne]; exact h0
  unfold OfE roC Sl3.v mbC rafZ at HO
  unfold roC Sl3.v mbC
  obtain ⟨⟨a0, n0, c0⟩, ⟨a1, n1, c1⟩, ⟨a2, n2, c2⟩, ⟨a3, n3, c3⟩⟩ := ro
  obtain ⟨ki, fa, ot, fx, fy, fz, tx, ty, tz, wi, de⟩ := m
  simp only at HO ⊢
  have BR := ((Blk.new w [.slice a0 n0 c0, .slice a1 n1 c1, .slice a2 n2 c2, .slice a3 n3 c3] 29).alloc (.cells #[.int .i64 ki, .int .i64 fa, .int .i64 ot, .string ⟨fx.toArray⟩, .string ⟨fy.toArray⟩, .string ⟨fz.toArray⟩, .string ⟨tx.toArray⟩, .string ⟨ty.toArray⟩, .string ⟨tz.toArray⟩, .int .i64 wi, .int .i64 de] 34)).alloc (.cells #[.string ⟨#[]⟩, .string ⟨#[]⟩, .string ⟨#[]⟩] 41)
  have BM := (Blk.new1 w (.cells #[.slice a0 n0 c0, .slice a1 n1 c1, .slice a2 n2 c2, .slice a3 n3 c3] 29) [.int .i64 ki, .int .i64 fa, .int .i64 ot, .string ⟨fx.toArray⟩, .string ⟨fy.toArray⟩, .string ⟨fz.toArray⟩, .string ⟨tx.toArray⟩, .string ⟨ty.toArray⟩, .string ⟨tz.toArray⟩, .int .i64 wi, .int .i64 de] 34).alloc (.cells #[.string ⟨#[]⟩, .string ⟨#[]⟩, .string ⟨#[]⟩] 41)
  have BZ := Blk.new2 w (.cells #[.slice a0 n0 c0, .slice a1 n1 c1, .slice a2 n2 c2, .slice a3 n3 c3] 29) (.cells #[.int .i64 ki, .int .i64 fa, .int .i64 ot, .string ⟨fx.toArray⟩, .string ⟨fy.toArray⟩, .string ⟨fz.toArray⟩, .string ⟨tx.toArray⟩, .string ⟨ty.toArray⟩, .string ⟨tz.toArray⟩, .int .i64 wi, .int .i64 de] 34) [.string ⟨#[]⟩, .string ⟨#[]⟩, .string ⟨#[]⟩] 41
  obtain ⟨W0, hW0⟩ : ∃ W0, ((w.alloc (.cells #[.slice a0 n0 c0, .slice a1 n1 c1, .slice a2 n2 c2, .slice a3 n3 c3] 29)).alloc (.cells #[.int .i64 ki, .int .i64 fa, .int .i64 ot, .string ⟨fx.toArray⟩, .string ⟨fy.toArray⟩, .string ⟨fz.toArray⟩, .string ⟨tx.toArray⟩, .string ⟨ty.toArray⟩, .string ⟨tz.toArray⟩, .int .i64 wi, .int .i64 de] 34)).alloc (.cells #[.string ⟨#[]⟩, .string ⟨#[]⟩, .string ⟨#[]⟩] 41) = W0 := ⟨_, rfl⟩
  have hq0 : Q w W0 := by rw [← hW0]; exact bt
  have hs0 : W0.heap.size = w.heap.size + 3 := by rw [← hW0]; simp
  have hEw := hE.ofQ hq0
  rw [hW0] at BR BM
  have BZ : Blk W0 (w.heap.size + 2) [.string ⟨#[]⟩, .string ⟨#[]⟩, .string ⟨#[]⟩] 41 := by rw [← hW0]; exact BZ
  clear hE
  have hE := hEw
  clear hEw
  have hQ0 := Q.refl W0
  replace r0 := BR.cell 0
  replace r1 := BR.cell 1
  replace r2 := BR.cell 2
  replace r3 := BR.cell 3
  simp only [List.getElem?_cons_zero, List.getElem?_cons_succ] at r0 r1 r2 r3
  replace lBR := BR.lt
  replace m0 := BM.cell 0
  replace m1 := BM.cell 1
  replace m2 := BM.cell 2
  replace m3 := BM.cell 3
  replace m4 := BM.cell 4
  replace m5 := BM.cell 5
  replace m6 := BM.cell 6
  replace m7 := BM.cell 7
  replace m8 := BM.cell 8
  replace m9 := BM.cell 9
  replace m10 := BM.cell 10
  simp only [List.getElem?_cons_zero, List.getElem?_cons_succ] at m0 m1 m2 m3 m4 m5 m6 m7 m8 m9 m10
  replace lBM := BM.lt
  go_enter Tryz.func9, Tryz.ntmps9
  go_wp2_with fail
  clear hW0
  refine (HO.out _ hE hq0).mono ?_
  rintro e Y1 ⟨rfl, hq1⟩
  have hQ1 : Q w Y1 := Q.trans hq0 hq1
  replace BZ := BlkK BZ hq1
  have hqW : Q Y1 (Y1.alloc (.cells #[.int .i64 0, .string ⟨#[]⟩, .string ⟨#[]⟩, .string ⟨#[]⟩] 85)) := (Below.refl _ Y1).alloc (Nat.le_refl _) _
  have hwW := Q.trans hQ1 hqW
  replace BZ := BlkK BZ hqW
  clear hE HO BR BM r0 r1 r2 r3 m0 m1 m2 m3 m4 m5 m6 m7 m8 m9 m10 lBR lBM
  have z0 := BZ.cell 0
  have z1 := BZ.cell 1
  have z2 := BZ.cell 2
  simp only [List.getElem?_cons_zero, List.getElem?_cons_succ] at z0 z1 z2
  have g0 := BZ.frozen 0
  have g1 := BZ.frozen 1
  have g2 := BZ.frozen 2
  have hbz : w.heap.size ≤ w.heap.size + 2 := by omega
  have Zf := ((BZ.set 0 (.string ⟨#[]⟩)).set 1 (.string ⟨#[]⟩)).set 2 (.string ⟨#[]⟩)
  simp only [List.set_cons_zero, List.set_cons_succ] at Zf
  have hQe := ((hwW.setCell (p := ⟨w.heap.size + 2, 0, none⟩) hbz (.string ⟨#[]⟩)).setCell (p := ⟨w.heap.size + 2, 1, none⟩) hbz (.string ⟨#[]⟩)).setCell (p := ⟨w.heap.size + 2, 2, none⟩) hbz (.string ⟨#[]⟩)
  go_wp2_with (exact bodyPost_ret (results_notch Zf Tryz.f9 rfl _ rfl rfl) rfl ⟨rfl, hQe⟩)
set_option maxRecDepth 100000 in
set_option maxHeartbeats 4000000 in
theorem joint_Birdsmouth_far (ro : Ro) (m : Mb) (x : Raf) (hx : RafBd x) (s : Int) (s1 : 1 ≤ s) (s2 : s ≤ 1000) (hs : x.run - x.over < (s : Rat)) (w : World) (hE : Env w) (hof : OfC w ro m x) :
    Calls Tryz.prog 9 #[.agg (roC ro).toArray, .agg (mbC m).toArray, .int .i64 s] w fun e w' => e = .returned (.tuple #[.agg #[.string ⟨#[]⟩, .string ⟨#[]⟩, .string ⟨#[]⟩], .int .i64 20]) ∧ Q w w' := by
  have bs : Bd 4 (s : Rat) := bd_int (by omega) (by decide)
  have bo := hx.ov
  have HO := Lib.hid hof
  have HW := Lib.hid (fun w hw => joint_whole s (by omega) w hw)
  have HR := Lib.hid (fun w hw => joint_room x.dep (rstr x.pitch) x.run (x.over : Rat) hx.r bo (by decide) w hw)
  have HD := Lib.hid (fun w hw => joint_order (s : Rat) (x.run - x.over) bs (hx.r.less bo) (by decide) w hw)
  rw [ordF_gt hs] at HD
  clear bs bo hx hs hof
  unfold OfC roC Sl3.v mbC rafC at HO
  unfold roC Sl3.v mbC
  obtain ⟨⟨a0, n0, c0⟩, ⟨a1, n1, c1⟩, ⟨a2, n2, c2⟩, ⟨a3, n3, c3⟩⟩ := ro
  obtain ⟨ki, fa, ot, fx, fy, fz, tx, ty, tz, wi, de⟩ := m
  obtain ⟨dp, pitch, run, over⟩ := x
  simp only at HO ⊢
  generalize rstr (run - (over : Rat)) = RM at *
  generalize rstr (s : Rat) = SS at *
  generalize rstr (over : Rat) = OV at *
  generalize rstr pitch = PI at *
  generalize rstr run = HI at *
  have e1 : decide (s < 1) = false := by rw [decide_eq_false_iff_not]; omega
  have e2 : decide ((1000 : Int) < s) = false := by rw [decide_eq_false_iff_not]; omega
  have BR := ((Blk.new w [.slice a0 n0 c0, .slice a1 n1 c1, .slice a2 n2 c2, .slice a3 n3 c3] 29).alloc (.cells #[.int .i64 ki, .int .i64 fa, .int .i64 ot, .string ⟨fx.toArray⟩, .string ⟨fy.toArray⟩, .string ⟨fz.toArray⟩, .string ⟨tx.toArray⟩, .string ⟨ty.toArray⟩, .string ⟨tz.toArray⟩, .int .i64 wi, .int .i64 de] 34)).alloc (.cells #[.string ⟨#[]⟩, .string ⟨#[]⟩, .string ⟨#[]⟩] 41)
  have BM := (Blk.new1 w (.cells #[.slice a0 n0 c0, .slice a1 n1 c1, .slice a2 n2 c2, .slice a3 n3 c3] 29) [.int .i64 ki, .int .i64 fa, .int .i64 ot, .string ⟨fx.toArray⟩, .string ⟨fy.toArray⟩, .string ⟨fz.toArray⟩, .string ⟨tx.toArray⟩, .string ⟨ty.toArray⟩, .string ⟨tz.toArray⟩, .int .i64 wi, .int .i64 de] 34).alloc (.cells #[.string ⟨#[]⟩, .string ⟨#[]⟩, .string ⟨#[]⟩] 41)
  have BZ := Blk.new2 w (.cells #[.slice a0 n0 c0, .slice a1 n1 c1, .slice a2 n2 c2, .slice a3 n3 c3] 29) (.cells #[.int .i64 ki, .int .i64 fa, .int .i64 ot, .string ⟨fx.toArray⟩, .string ⟨fy.toArray⟩, .string ⟨fz.toArray⟩, .string ⟨tx.toArray⟩, .string ⟨ty.toArray⟩, .string ⟨tz.toArray⟩, .int .i64 wi, .int .i64 de] 34) [.string ⟨#[]⟩, .string ⟨#[]⟩, .string ⟨#[]⟩] 41
  obtain ⟨W0, hW0⟩ : ∃ W0, ((w.alloc (.cells #[.slice a0 n0 c0, .slice a1 n1 c1, .slice a2 n2 c2, .slice a3 n3 c3] 29)).alloc (.cells #[.int .i64 ki, .int .i64 fa, .int .i64 ot, .string ⟨fx.toArray⟩, .string ⟨fy.toArray⟩, .string ⟨fz.toArray⟩, .string ⟨tx.toArray⟩, .string ⟨ty.toArray⟩, .string ⟨tz.toArray⟩, .int .i64 wi, .int .i64 de] 34)).alloc (.cells #[.string ⟨#[]⟩, .string ⟨#[]⟩, .string ⟨#[]⟩] 41) = W0 := ⟨_, rfl⟩
  have hq0 : Q w W0 := by rw [← hW0]; exact bt
  have hs0 : W0.heap.size = w.heap.size + 3 := by rw [← hW0]; simp
  have hEw := hE.ofQ hq0
  rw [hW0] at BR BM
  have BZ : Blk W0 (w.heap.size + 2) [.string ⟨#[]⟩, .string ⟨#[]⟩, .string ⟨#[]⟩] 41 := by rw [← hW0]; exact BZ
  clear hE
  have hE := hEw
  clear hEw
  have hQ0 := Q.refl W0
  replace r0 := BR.cell 0
  replace r1 := BR.cell 1
  replace r2 := BR.cell 2
  replace r3 := BR.cell 3
  simp only [List.getElem?_cons_zero, List.getElem?_cons_succ] at r0 r1 r2 r3
  replace lBR := BR.lt
  replace m0 := BM.cell 0
  replace m1 := BM.cell 1
  replace m2 := BM.cell 2
  replace m3 := BM.cell 3
  replace m4 := BM.cell 4
  replace m5 := BM.cell 5
  replace m6 := BM.cell 6
  replace m7 := BM.cell 7
  replace m8 := BM.cell 8
  replace m9 := BM.cell 9
  replace m10 := BM.cell 10
  simp only [List.getElem?_cons_zero, List.getElem?_cons_succ] at m0 m1 m2 m3 m4 m5 m6 m7 m8 m9 m10
  replace lBM := BM.lt
  go_enter Tryz.func9, Tryz.ntmps9
  go_wp2_with fail
  clear hW0
  refine (HO.out _ hE hq0).mono ?_
  rintro e Y1 ⟨rfl, hq1⟩
  have hQ1 : Q w Y1 := Q.trans hq0 hq1
  replace BZ := BlkK BZ hq1
  have X := Blk.new Y1 [.int .i64 dp, .string ⟨PI.toArray⟩, .string ⟨HI.toArray⟩, .string ⟨OV.toArray⟩] 85
  obtain ⟨W2, hW2⟩ : ∃ W2, Y1.alloc (.cells #[.int .i64 dp, .string ⟨PI.toArray⟩, .string ⟨HI.toArray⟩, .string ⟨OV.toArray⟩] 85) = W2 := ⟨_, rfl⟩
  have X : Blk W2 Y1.heap.size [.int .i64 dp, .string ⟨PI.toArray⟩, .string ⟨HI.toArray⟩, .string ⟨OV.toArray⟩] 85 := by rw [← hW2]; exact X
  have hqW : Q Y1 W2 := by rw [← hW2]; exact bt
  have hE2 := hE.ofQ (Q.trans hq1 hqW)
  have hwW : Q w W2 := Q.trans hQ1 hqW
  replace BZ := BlkK BZ hqW
  have x0 := X.cell 0
  have x1 := X.cell 1
  have x2 := X.cell 2
  have x3 := X.cell 3
  simp only [List.getElem?_cons_zero, List.getElem?_cons_succ] at x0 x1 x2 x3
  clear hE HO BR BM r0 r1 r2 r3 m0 m1 m2 m3 m4 m5 m6 m7 m8 m9 m10 lBR lBM
  have hE := hE2
  clear hE2
  go_wp2_with fail
  clear hW2
  have hEd : Env W2.drew := hE.ofQ (Below.drew (Q.refl W2))
  refine wp_steadily 7 rfl (by kernel_rfl) rfl ?_
  refine svp 0 ?_
  refine steadily_call (i := 1) (v := _) rfl rfl (by kernel_rfl) (by kernel_rfl) (fun _ _ _ h => h) (by rfl) ?_ (fun w' hq => HW.out w' (hEd.ofQ hq)) ?_
  · (intro w' hq; go_simp; try with_reducible rfl)
  simp only [Act.put, List.setIfInBounds_toArray, List.set_cons_zero, List.set_cons_succ]
  refine svq 2 rfl (by intro w' hq; have hc0 := qcell hq x0; have hc1 := qcell hq x1; have hc2 := qcell hq x2; have hc3 := qcell hq x3; go_simp; try with_reducible rfl) ?_
  refine steadily_call (i := 3) (v := _) rfl rfl (by kernel_rfl) (by kernel_rfl) (fun _ _ _ h => h) (by rfl) ?_ (fun w' hq => HR.out w' (hEd.ofQ hq)) ?_
  · (intro w' hq; go_simp; try with_reducible rfl)
  simp only [Act.put, List.setIfInBounds_toArray, List.set_cons_zero, List.set_cons_succ]
  refine steadily_call (i := 4) (v := _) rfl rfl (by kernel_rfl) (by kernel_rfl) (fun _ _ _ h => h) (by rfl) ?_ (fun w' hq => HD.out w' (hEd.ofQ hq)) ?_
  · (intro w' hq; go_simp; try with_reducible rfl)
  simp only [Act.put, List.setIfInBounds_toArray, List.set_cons_zero, List.set_cons_succ]
  refine svp 5 ?_
  refine svp 6 ?_
  refine steadily_done (by kernel_rfl) (fun w3 hq3 => ?_)
  simp only [List.drop_succ_cons, List.drop_nil]
  have hqa : Q W2 w3 := Q.trans (Below.drew (Q.refl W2)) hq3
  replace BZ := BlkK BZ hqa
  have z0 := BZ.cell 0
  have z1 := BZ.cell 1
  have z2 := BZ.cell 2
  simp only [List.getElem?_cons_zero, List.getElem?_cons_succ] at z0 z1 z2
  have g0 := BZ.frozen 0
  have g1 := BZ.frozen 1
  have g2 := BZ.frozen 2
  have hbz : w.heap.size ≤ w.heap.size + 2 := by omega
  have Zf := ((BZ.set 0 (.string ⟨#[]⟩)).set 1 (.string ⟨#[]⟩)).set 2 (.string ⟨#[]⟩)
  simp only [List.set_cons_zero, List.set_cons_succ] at Zf
  have hQe := (((Q.trans hwW hqa).setCell (p := ⟨w.heap.size + 2, 0, none⟩) hbz (.string ⟨#[]⟩)).setCell (p := ⟨w.heap.size + 2, 1, none⟩) hbz (.string ⟨#[]⟩)).setCell (p := ⟨w.heap.size + 2, 2, none⟩) hbz (.string ⟨#[]⟩)
  clear hq3 HR HD hEd HW x0 x1 x2 x3 X
  go_wp2_with (exact bodyPost_ret (results_notch Zf Tryz.f9 rfl _ rfl rfl) rfl ⟨rfl, hQe⟩)
set_option maxRecDepth 100000 in
set_option maxHeartbeats 4000000 in
theorem joint_Deepest_no (ro : Ro) (m : Mb) (E : Int) (h0 : E ≠ 0) (w : World) (hE : Env w) (hof : OfE w ro m E) :
    Calls Tryz.prog 12 #[.agg (roC ro).toArray, .agg (mbC m).toArray] w fun e w' => e = .returned (.tuple #[.string ⟨#[]⟩, .int .i64 E]) ∧ Q w w' := by
  have HO := Lib.hid hof
  clear hof
  have hb : (E == 0) = false := by rw [beq_eq_false_iff_ne]; exact h0
  unfold OfE roC Sl3.v mbC rafZ at HO
  unfold roC Sl3.v mbC
  obtain ⟨⟨a0, n0, c0⟩, ⟨a1, n1, c1⟩, ⟨a2, n2, c2⟩, ⟨a3, n3, c3⟩⟩ := ro
  obtain ⟨ki, fa, ot, fx, fy, fz, tx, ty, tz, wi, de⟩ := m
  simp only at HO ⊢
  have BR := (Blk.new w [.slice a0 n0 c0, .slice a1 n1 c1, .slice a2 n2 c2, .slice a3 n3 c3] 29).alloc (.cells #[.int .i64 ki, .int .i64 fa, .int .i64 ot, .string ⟨fx.toArray⟩, .string ⟨fy.toArray⟩, .string ⟨fz.toArray⟩, .string ⟨tx.toArray⟩, .string ⟨ty.toArray⟩, .string ⟨tz.toArray⟩, .int .i64 wi, .int .i64 de] 34)
  have BM := Blk.new1 w (.cells #[.slice a0 n0 c0, .slice a1 n1 c1, .slice a2 n2 c2, .slice a3 n3 c3] 29) [.int .i64 ki, .int .i64 fa, .int .i64 ot, .string ⟨fx.toArray⟩, .string ⟨fy.toArray⟩, .string ⟨fz.toArray⟩, .string ⟨tx.toArray⟩, .string ⟨ty.toArray⟩, .string ⟨tz.toArray⟩, .int .i64 wi, .int .i64 de] 34
  obtain ⟨W0, hW0⟩ : ∃ W0, (w.alloc (.cells #[.slice a0 n0 c0, .slice a1 n1 c1, .slice a2 n2 c2, .slice a3 n3 c3] 29)).alloc (.cells #[.int .i64 ki, .int .i64 fa, .int .i64 ot, .string ⟨fx.toArray⟩, .string ⟨fy.toArray⟩, .string ⟨fz.toArray⟩, .string ⟨tx.toArray⟩, .string ⟨ty.toArray⟩, .string ⟨tz.toArray⟩, .int .i64 wi, .int .i64 de] 34) = W0 := ⟨_, rfl⟩
  have hq0 : Q w W0 := by rw [← hW0]; exact bt
  have hEw := hE.ofQ hq0
  rw [hW0] at BR
  have BM : Blk W0 (w.heap.size + 1) [.int .i64 ki, .int .i64 fa, .int .i64 ot, .string ⟨fx.toArray⟩, .string ⟨fy.toArray⟩, .string ⟨fz.toArray⟩, .string ⟨tx.toArray⟩, .string ⟨ty.toArray⟩, .string ⟨tz.toArray⟩, .int .i64 wi, .int .i64 de] 34 := by rw [← hW0]; exact BM
  clear hE
  have hE := hEw
  clear hEw
  have hQ0 := Q.refl W0
  replace r0 := BR.cell 0
  replace r1 := BR.cell 1
  replace r2 := BR.cell 2
  replace r3 := BR.cell 3
  simp only [List.getElem?_cons_zero, List.getElem?_cons_succ] at r0 r1 r2 r3
  replace lBR := BR.lt
  replace m0 := BM.cell 0
  replace m1 := BM.cell 1
  replace m2 := BM.cell 2
  replace m3 := BM.cell 3
  replace m4 := BM.cell 4
  replace m5 := BM.cell 5
  replace m6 := BM.cell 6
  replace m7 := BM.cell 7
  replace m8 := BM.cell 8
  replace m9 := BM.cell 9
  replace m10 := BM.cell 10
  simp only [List.getElem?_cons_zero, List.getElem?_cons_succ] at m0 m1 m2 m3 m4 m5 m6 m7 m8 m9 m10
  replace lBM := BM.lt
  go_enter Tryz.func12, Tryz.ntmps12
  go_wp2_with fail
  clear hW0
  refine (HO.out _ hE hq0).mono ?_
  rintro e Y1 ⟨rfl, hq1⟩
  have hQe : Q w (Y1.alloc (.cells #[.int .i64 0, .string ⟨#[]⟩, .string ⟨#[]⟩, .string ⟨#[]⟩] 85)) := Q.trans (Q.trans hq0 hq1) ((Below.refl _ Y1).alloc (Nat.le_refl _) _)
  clear HO BR BM r0 r1 r2 r3 m0 m1 m2 m3 m4 m5 m6 m7 m8 m9 m10 lBR lBM
  go_wp2
  go_ret2
  exact ⟨rfl, hQe⟩
end Go.Proofs.YtlbjjkmfcgcodaaGreatDoor
namespace Go.Proofs.YtlbjjkmfcgcodaaGreatDoor
open Go.RowKit Go.Shelf Kp
attribute [local go_sem] Oper.semAt_some
def noE (R : List (List Sd)) (m : Mb) : Int := if 5 < m.kind then 8 else ofE R m
theorem SideOk.rg {R : List (List Sd)} {m : Mb} {n : Nat} {s : Sd} {X Y : Str} (h : SideOk R m n s X Y) : Rgd s := by
  rw [h.side]
  exact (planE_ok h.plan).rg _ (sdAt_mem h.pre.lt)
theorem SideOk.ng {R : List (List Sd)} {m : Mb} {n : Nat} {s : Sd} {X Y : Str} (h : SideOk R m n s X Y) : s.gable = false := by
  rw [h.side]
  exact h.pre.gable
theorem SideOk.face {R : List (List Sd)} {m : Mb} {n : Nat} {s : Sd} {X Y : Str} (h : SideOk R m n s X Y) : faceS R m = s := by
  rw [h.side]
  exact faceS_at h.pre.face
theorem SideOk.runs {R : List (List Sd)} {m : Mb} {n : Nat} {s : Sd} {X Y : Str} (h : SideOk R m n s X Y) : Bd 37 (highF R m) ∧ Bd 37 (lowF R m) := by
  have okm := hipE_ok h.pre.hip
  have hfl : n < (frontsF R).length := by rw [frontsF_len]; exact h.pre.lt
  have okF := frontsF_ok (planE_ok h.plan).rg _ (List.getElem_mem hfl)
  have hFF : faceF R m = (frontsF R)[n] := by
    unfold faceF
    rw [h.pre.face, List.getD_eq_getElem?_getD]
    simp [hfl]
  have b1 := okm.bf h.short
  have b2 := okm.bt h.short
  unfold highF lowF
  rw [hFF]
  exact ⟨distF_bd okF b2.1 b2.2.1, distF_bd okF b1.1 b1.2.1⟩
theorem SideOk.bd {R : List (List Sd)} {m : Mb} {n : Nat} {s : Sd} {X Y : Str} (h : SideOk R m n s X Y) : RafBd (rafOf R m) := by
  have okm := hipE_ok h.pre.hip
  have hr := h.rg
  have h1 := hr.n h.ng
  have ho := hr.o0
  have ho1 := hr.o1
  obtain ⟨k, hk⟩ := Int.eq_ofNat_of_zero_le (show 0 ≤ s.run by omega)
  unfold rafOf
  rw [h.face, hk]
  refine ⟨okm.d1, okm.d2, bd_divInt (by omega) (by omega) (by omega), divInt_num_pos (by omega) (by omega), h.runs.1, ?_⟩
  show s.over.natAbs < 10 ^ 5
  omega
theorem SideOk.ofC {R : List (List Sd)} {m : Mb} {n : Nat} {s : Sd} {X Y : Str} (h : SideOk R m n s X Y) (h0 : noE R m = 0) (ro : Ro) (w : World) (hv : RgSl w ro.p.v R) : OfC w ro m (rafOf R m) := fun W hW hq => by
  unfold noE at h0
  by_cases hk : 5 < m.kind
  · rw [if_pos hk] at h0; exact absurd h0 (by decide)
  rw [if_neg hk] at h0
  obtain ⟨⟨a0, n0, c0⟩, ⟨a1, n1, c1⟩, ⟨a2, n2, c2⟩, ⟨a3, n3, c3⟩⟩ := ro
  have := joint_of R h.plan h.few m h.short n h.pre (by omega) (.slice a0 n0 c0) a1 a2 a3 n1 n2 n3 c1 c2 c3 W hW (hv.keep hq)
  unfold ofV at this
  rw [h0, if_pos rfl] at this
  exact this
theorem SideOk.ofE {R : List (List Sd)} {m : Mb} {n : Nat} {s : Sd} {X Y : Str} (h : SideOk R m n s X Y) (h0 : noE R m ≠ 0) (ro : Ro) (w : World) (hv : RgSl w ro.p.v R) : OfE w ro m (noE R m) := fun W hW hq => by
  obtain ⟨⟨a0, n0, c0⟩, ⟨a1, n1, c1⟩, ⟨a2, n2, c2⟩, ⟨a3, n3, c3⟩⟩ := ro
  unfold noE at *
  by_cases hk : 5 < m.kind
  · rw [if_pos hk]
    exact joint_of_kind R h.plan h.few m h.short h.pre.hip hk (.slice a0 n0 c0) a1 a2 a3 n1 n2 n3 c1 c2 c3 W hW (hv.keep hq)
  · rw [if_neg hk] at h0 ⊢
    have := joint_of R h.plan h.few m h.short n h.pre (by omega) (.slice a0 n0 c0) a1 a2 a3 n1 n2 n3 c1 c2 c3 W hW (hv.keep hq)
    unfold ofV at this
    rw [if_neg h0] at this
    exact this
def birdE (R : List (List Sd)) (m : Mb) (q : Int) : Int := if noE R m ≠ 0 then noE R m else if (rafOf R m).run - ((rafOf R m).over : Rat) < (q : Rat) then 20 else 0
def birdV (R : List (List Sd)) (m : Mb) (q : Int) : List Value := if birdE R m q = 0 then [.string ⟨(rstr ((rafOf R m).over : Rat)).toArray⟩, .string ⟨(rstr (q : Rat)).toArray⟩, .string ⟨(rstr ((q : Rat) * (rafOf R m).pitch)).toArray⟩] else [.string ⟨#[]⟩, .string ⟨#[]⟩, .string ⟨#[]⟩]
theorem bird_any {R : List (List Sd)} {m : Mb} {n : Nat} {s : Sd} {X Y : Str} (h : SideOk R m n s X Y) (q : Int) (q1 : 1 ≤ q) (q2 : q ≤ 1000) (ro : Ro) (w : World) (hE : Env w) (hv : RgSl w ro.p.v R) :
    Calls Tryz.prog 9 #[.agg (roC ro).toArray, .agg (mbC m).toArray, .int .i64 q] w fun e w' => e = .returned (.tuple #[.agg (birdV R m q).toArray, .int .i64 (birdE R m q)]) ∧ Q w w' := by
  unfold birdV birdE
  by_cases h0 : noE R m = 0
  · have hc := h.ofC h0 ro w hv
    by_cases hr : (rafOf R m).run - ((rafOf R m).over : Rat) < (q : Rat)
    · simp only [h0, hr, if_true, ne_eq, not_true, if_false]
      rw [if_neg (by decide)]
      exact joint_Birdsmouth_far ro m (rafOf R m) h.bd q q1 q2 hr w hE hc
    · simp only [h0, hr, if_true, ne_eq, not_true, if_false]
      exact joint_Birdsmouth ro m (rafOf R m) h.bd q q1 q2 (Rat.not_lt.1 hr) w hE hc
  · have hc := h.ofE h0 ro w hv
    simp only [h0, ne_eq, not_false_eq_true, if_true, if_false]
    exact joint_Birdsmouth_no ro m (noE R m) q h0 w hE hc
def deepY (R : List (List Sd)) (m : Mb) : Rat := ((rafOf R m).dep : Rat) / ((rafOf R m).pitch * 3)
def deepQ (R : List (List Sd)) (m : Mb) : Rat := if (rafOf R m).run - ((rafOf R m).over : Rat) < deepY R m then (rafOf R m).run - ((rafOf R m).over : Rat) else deepY R m
def deepV (R : List (List Sd)) (m : Mb) : Str := if noE R m = 0 then rstr (deepQ R m) else []
theorem deepY_bd {x : Raf} (h : RafBd x) : Bd 12 ((x.dep : Rat) / (x.pitch * 3)) := by
  have b3 : Bd 1 (3 : Rat) := ⟨by decide, by decide⟩
  have bd : Bd 4 (x.dep : Rat) := bd_int (by have := h.d1; have := h.d2; omega) (by decide)
  have bp := h.p.mul b3
  have hp0 : 0 < (x.pitch * 3).num := by
    have h1 : 0 < x.pitch := (num_pos_iff _).2 h.p0
    exact (num_pos_iff _).1 (by grind)
  exact (bd.quot bp hp0).mono (by decide)
theorem deep_any {R : List (List Sd)} {m : Mb} {n : Nat} {s : Sd} {X Y : Str} (h : SideOk R m n s X Y) (ro : Ro) (w : World) (hE : Env w) (hv : RgSl w ro.p.v R) :
    Calls Tryz.prog 12 #[.agg (roC ro).toArray, .agg (mbC m).toArray] w fun e w' => e = .returned (.tuple #[.string ⟨(deepV R m).toArray⟩, .int .i64 (noE R m)]) ∧ Q w w' := by
  unfold deepV
  by_cases h0 : noE R m = 0
  · have hc := h.ofC h0 ro w hv
    simp only [h0, if_true]
    exact joint_Deepest ro m (rafOf R m) h.bd (deepY R m) (deepQ R m) rfl (deepY_bd h.bd) rfl w hE hc
  · have hc := h.ofE h0 ro w hv
    simp only [h0, if_false]
    exact joint_Deepest_no ro m (noE R m) h0 w hE hc
end Go.Proofs.YtlbjjkmfcgcodaaGreatDoor
namespace Go.Proofs.YtlbjjkmfcgcodaaGreatDoor
open Go.RowKit Go.Shelf Kp
attribute [local go_sem] Oper.semAt_some
theorem bd_nil {n : Nat} (h : 0 < n) : Bd n (0 : Rat) := ⟨Nat.pow_pos (by decide), Nat.one_lt_pow (by omega) (by decide)⟩
section
variable {P : Program} {g : Operand} {ps : Array Tmp} {assign body : Code} {R : Exit → Act → World → Prop} {a : Act} {w : World} {m gf N : Nat} {lb : Array Value} {bs : List Nat}
theorem wpIn_rangeFunc_upP (Pc : World → Prop) (hm : 1 ≤ m) (hg : a.eval g = .func (.func gf) #[] lb) (eg : ∀ args w, (callFunc gf args).run P w = .ok (.enter gf args) w)
    {encs : PlN N → Array Value} (hseq : SeqNextS (m - 1) P gf lb encs bs (fun _ W => Pc W) nxUp (fun ys => UpN N ys) (fun pre => ∃ k, k ≤ N ∧ UpN k pre) w) (hbs : ∀ k ∈ bs, k < w.heap.size) (hps : ∀ x, (encs x).size = ps.size)
    (I : Nat → World → Prop) (Ix : Code → World → Prop) (hPc : ∀ k W, I k W → Pc W) (hI : ∀ k W W', I k W → KC W W' → Below w.heap.size W W' → I k W') (hIx : ∀ c W W', Ix c W → KC W W' → Below w.heap.size W W' → Ix c W') (h0 : I 0 w) (AS : PlN N → Act → World → Prop) (hAS : ∀ x a1 W W', AS x a1 W → KC W W' → AS x a1 W')
    (hassign : ∀ (l : Nat) (x : PlN N) (W : World) (K : Act → World → Prop), w.heap.size ≤ W.heap.size → (∀ a1 W', Q W W' → AS x a1 W' → K a1 W') →
      assign.wpIn (Fence.wide.inRound l) (m - 1 - 1) P (Exit.then K (fun _ _ _ => False)) { tmps := (ps.zip (encs x)).foldl (fun t (p, v) => t.setIfInBounds p v) a.tmps, defers := [] } W)
    (hbody : ∀ (l k : Nat) (hk : k < N) (a1 : Act) (W : World), I k W → AS ⟨k, hk⟩ a1 W → body.wpIn (Fence.wide.inRound l) (m - 1 - 1) P (roundUp w.heap.size bs I Ix (k + 1) W) a1 W)
    (hdone : ∀ (D : Nat) (W : World), w.heap.size ≤ D → I N W → W.heap[D]? = some (.deferred (some [])) → R .normal { a with defers := { target := .collected D, args := #[] } :: a.defers } W)
    (hstop : ∀ (D : Nat) (c : Code) (W : World), w.heap.size ≤ D → Ix c W → W.heap[D]? = some (.deferred (some [])) → c.wpIn Fence.wide m P R { a with defers := { target := .collected D, args := #[] } :: a.defers } W) :
    (Code.rangeFunc g ps assign body).wpIn Fence.wide m P R a w := by
  refine wpIn_rangeFunc_nextS hm hg eg hseq hbs hps (fun pre W => I pre.length W) (fun c _ W => Ix c W) (fun _ W h => hPc _ W h) (fun pre W W' h k hb => hI _ W W' h k hb) (fun c _ W W' h k hb => hIx c W W' h k hb) h0 AS hAS hassign ?_ ?_ ?_
  · intro l pre x a1 W hi hx hs
    obtain ⟨k, hk⟩ := x
    have e : pre.length = k := hx.symm
    subst e
    refine wpIn_mono (hbody l pre.length hk a1 W hi hs) ?_
    intro e a3 W3 hp
    cases e with
    | normal => exact ⟨hp.1, hp.2.1, by
      show I (pre ++ [_]).length W3
      rw [List.length_append, List.length_singleton]; exact hp.2.2⟩
    | ret => exact hp
    | exit id => exact hp
    | goto t => exact hp
    | panic ch => exact hp
    | outgrown => exact hp
  · intro D xs W hD hS hi hk
    exact hdone D W hD (by rw [hS.len] at hi; exact hi) hk
  · intro D c pre W hD hSp hi hk
    exact hstop D c W hD hi hk
end
end Go.Proofs.YtlbjjkmfcgcodaaGreatDoor
namespace Go.Proofs.YtlbjjkmfcgcodaaGreatDoor
open Go.RowKit Go.Shelf Kp
attribute [local go_sem] Oper.semAt_some
theorem checks_one (q : Rat) (h : Bd 36 q) (w : World) (hE : Env w) :
    Calls Tryz.prog 141 #[.string ⟨(rstr q).toArray⟩] w fun e w' => e = .returned (.bool false) ∧ Q w w' := by
  have HO := Lib.hid (fun w hw => joint_short q h w hw)
  generalize rstr q = S at *
  clear h
  go_enter Tryz.func141, Tryz.ntmps141
  have hQ0 := Q.refl w
  go_wp2_with fail
  refine (HO.out _ (hE.ofQ bt)).mono ?_
  rintro e w1 ⟨rfl, hq1⟩
  have hs1 : Q w w1 := Q.trans bt hq1
  have hQ1 : Q w w1 := Q.trans hQ0 hs1
  go_wp2
  go_ret
  exact ⟨rfl, hQ1⟩
set_option maxRecDepth 100000 in
set_option maxHeartbeats 1000000 in
theorem index_short (l : List Rat) (hl : ∀ q ∈ l, Bd 36 q) (hn : l.length ≤ 100) (v : Value) (w : World) (hE : Env w) (hv : StrSl w v (l.map rstr)) :
    Calls Tryz.prog 156 #[v, .func (.func 141) #[] #[]] w fun e w' => e = .returned (.int .i64 (-1)) ∧ Q w w' := by
  obtain ⟨b, o, cap, rfl, hb, hc⟩ := hv
  rw [List.length_map] at hc
  rw [List.length_map]
  have HL := Lib.hid hl
  clear hl
  go_enter Tryz.func156, Tryz.ntmps156
  go_wp2
  go_loopw [8] (fun i wr => ∃ k : Nat, k ≤ l.length ∧ i = .int .i64 k ∧ Q w wr) (fun i _ => l.length - (intOf i).toNat)
  case atStart => exact ⟨0, by omega, rfl, Below.refl _ _⟩
  case round =>
    obtain ⟨k, hk, rfl, hQ⟩ := hrel
    by_cases hlt : k < l.length
    · have hcell := hc k hlt
      have hcell' : wr.cell? ⟨b, o + k, none⟩ = some (.string ⟨((l.map rstr).getD k []).toArray⟩) := by rw [hQ.cell (p := ⟨b, o + k, none⟩) hb]; exact hcell
      have hq : (l.map rstr).getD k [] = rstr l[k] := by rw [List.getD_eq_getElem?_getD, List.getElem?_map, List.getElem?_eq_getElem hlt]; rfl
      rw [hq] at hcell'
      have HG := Lib.hid (fun w hw => checks_one l[k] (HL.out _ (List.getElem_mem hlt)) w hw)
      clear hcell hc hq HL
      generalize rstr l[k] = S at *
      go_wp2_with fail
      refine (HG.out _ (hE.q hQ)).mono ?_
      rintro e w2 ⟨rfl, hq2⟩
      have hQ2 : Q w w2 := Q.trans hQ hq2
      go_wp2
      go_roundw
      case rel => exact ⟨k + 1, by omega, by go_num, hQ2⟩
      case measure => simp [intOf]; omega
    · obtain rfl : k = l.length := by omega
      go_wp2
      go_ret
      exact ⟨rfl, hQ⟩
set_option maxHeartbeats 1000000 in
theorem contains_short (l : List Rat) (hl : ∀ q ∈ l, Bd 36 q) (hn : l.length ≤ 100) (v : Value) (w : World) (hE : Env w) (hv : StrSl w v (l.map rstr)) :
    Calls Tryz.prog 107 #[v, .func (.func 141) #[] #[]] w fun e w' => e = .returned (.bool false) ∧ Q w w' := by
  have HI := Lib.hid (index_short l hl hn v w hE hv)
  clear hl hv
  go_enter Tryz.func107, Tryz.ntmps107
  go_wp2_with fail
  refine HI.out.mono ?_
  rintro e w1 ⟨rfl, hq1⟩
  go_wp2
  go_ret
  exact ⟨rfl, hq1⟩
theorem raf_checks (x y z u p q r : Value) (w : World) :
    Calls Tryz.prog 90 #[.agg #[x, y, z, u], .agg #[p, q, r]] w fun e w' => e = .returned (.func (.func 140) #[] #[.pointer (some ⟨w.heap.size + 1, 0, none⟩), .pointer (some ⟨w.heap.size, 0, none⟩)]) ∧
      w' = (w.alloc (.cells #[x, y, z, u] 85)).alloc (.cells #[p, q, r] 41) := by
  go_enter Tryz.func90, Tryz.ntmps90
  go_wp2
  go_ret
  exact ⟨rfl, rfl⟩
def chkEnc (x : PlN 2) : Array Value := #[.bool true, .int .i64 (if x.1 = 0 then 1 else 9)]
structure NotchOk (x : Raf) (q : Rat) : Prop where
  b : Bd 12 q
  p : 0 < q
  r : q ≤ x.run - x.over
set_option maxRecDepth 100000 in
set_option maxHeartbeats 4000000 in
theorem checks1_nx (x : Raf) (hx : RafBd x) (q : Rat) (hq : NotchOk x q) (m : Nat) (hm : 1 ≤ m) (l Bn Bx : Nat) (J Jx : List (PlN 2) → World → Prop) (hPc : ∀ pre W, J pre W → Env W)
    (hY : ∀ pre y W, J pre W → nxUp pre y → YieldAt Fence.wide (m - 1) Tryz.prog l (chkEnc y) W fun e W' =>
      (e = .returned (.bool true) ∧ J (pre ++ [y]) W' ∧ KeepB [Bn, Bx] W W') ∨ (e = .returned (.bool false) ∧ Jx (pre ++ [y]) W'))
    (hJ : ∀ pre W W', J pre W → Q W W' → J pre W')
    (W : World) (hBn : Blk W Bn [.string ⟨(rstr (x.over : Rat)).toArray⟩, .string ⟨(rstr q).toArray⟩, .string ⟨(rstr (q * x.pitch)).toArray⟩] 41) (hBx : Blk W Bx (rafC x) 85) (h0 : J [] W) :
    CallsIn Fence.wide m Tryz.prog 140 #[.func (.yield l) #[] #[], .pointer (some ⟨Bn, 0, none⟩), .pointer (some ⟨Bx, 0, none⟩)] W fun e W' => (∃ v, e = .returned v) ∧
      ((∃ ys, UpN 2 ys ∧ J ys W') ∨ (∃ pre, (∃ k, k ≤ 2 ∧ UpN k pre) ∧ Jx pre W')) := by
  refine callsIn_of_wp Tryz.func140 rfl trivial ?_ rfl
  simp only [Tryz.ntmps140, List.size_toArray, List.length_cons, List.length_nil, Nat.reduceAdd, Nat.reduceSub, Array.replicate_succ, Array.replicate_zero, List.push_toArray, List.append_toArray, List.nil_append, List.cons_append]
  have hmix : Tryz.prog.follows .mixedOrders = true := by kernel_rfl
  have bo := hx.ov
  have bm := hq.b.mul hx.p
  have HC := Lib.hid (fun v W hW hv => contains_short [(x.over : Rat), q, q * x.pitch] (by
    intro y hy
    simp only [List.mem_cons, List.not_mem_nil, or_false] at hy
    rcases hy with rfl | rfl | rfl
    · exact bo.mono (by decide)
    · exact hq.b.mono (by decide)
    · exact bm.mono (by decide)) (by simp) v W hW hv)
  have HM := Lib.hid (fun w hw => rational_Mul_bd q x.pitch hq.b hx.p (by decide) w hw)
  have HO1 := Lib.hid (fun w hw => joint_order q 0 hq.b (bd_nil (n := 1) (by decide)) (by decide) w hw)
  rw [ordF_gt hq.p, rstr_zero] at HO1
  have HR := Lib.hid (fun w hw => joint_room x.dep (rstr x.pitch) x.run (x.over : Rat) hx.r bo (by decide) w hw)
  have HO2 := Lib.hid (fun w hw => joint_order q (x.run - x.over) hq.b (hx.r.less bo) (by decide) w hw)
  have hor : ordF q (x.run - x.over) = -1 ∨ ordF q (x.run - x.over) = 0 := by
    by_cases h : q < x.run - x.over
    · exact .inl (ordF_lt h)
    · exact .inr (by rw [← Rat.le_antisymm hq.r (Rat.not_lt.1 h), ordF_eq])
  generalize ordF q (x.run - x.over) = od at *
  have hY0 := hY [] ⟨0, by decide⟩
  have hY1 := hY [⟨0, by decide⟩] ⟨1, by decide⟩
  have hp0 : UpN 0 ([] : List (PlN 2)) := rfl
  have hp1 := hp0.next ⟨0, by decide⟩ rfl
  have hp2 := hp1.next ⟨1, by decide⟩ rfl
  unfold chkEnc at hY0 hY1
  simp only [if_true, Nat.one_ne_zero, if_false] at hY0 hY1
  unfold rafC at hBx
  simp only [List.map_cons, List.map_nil] at HC
  obtain ⟨dp, pitch, run, over⟩ := x
  simp only at HC HM HR HO2 hBn hBx
  generalize rstr (q * pitch) = HE at *
  generalize rstr (run - (over : Rat)) = RM at *
  generalize rstr (over : Rat) = OV at *
  generalize rstr pitch = PI at *
  generalize rstr run = HI at *
  generalize rstr q = SS at *
  have HY0 := Lib.hid hY0
  have HY1 := Lib.hid hY1
  clear bo bm hq hx hY hY0 hY1
  have n0 := hBn.cell 0
  have n1 := hBn.cell 1
  have n2 := hBn.cell 2
  simp only [List.getElem?_cons_zero, List.getElem?_cons_succ] at n0 n1 n2
  have hEw := hPc _ _ h0
  have T := Blk.new W [.string ⟨OV.toArray⟩, .string ⟨SS.toArray⟩, .string ⟨HE.toArray⟩] 30
  have hqT : Q W (W.alloc (.cells ([.string ⟨OV.toArray⟩, .string ⟨SS.toArray⟩, .string ⟨HE.toArray⟩] : List Value).toArray 30)) := (Below.refl _ W).alloc (Nat.le_refl _) _
  rcases hor with rfl | rfl
  all_goals
    gi_wp2
    refine ⟨trivial, ?_⟩
    refine (callsIn_wide.2 (HC.out _ _ (hEw.ofQ hqT) (StrSl.three T))).mono ?_
    rintro e w3 ⟨rfl, hq3⟩
    have hqw : Q W w3 := Q.trans hqT hq3
    have hJ3 := hJ _ _ _ h0 hqw
    have hYK := HY0.out w3 hJ3 rfl
    obtain ⟨fn, tmps, assign, body, hy, hR⟩ := hYK
    gi_wp2
    refine hR.mono ?_
    rintro e W3 (⟨rfl, hJ4, hk4⟩ | ⟨rfl, hJx4⟩)
    · have hkb : KeepB [Bn, Bx] W W3 := (KeepB.q hqw).trans hk4
      have hBn3 : Blk W3 Bn [.string ⟨OV.toArray⟩, .string ⟨SS.toArray⟩, .string ⟨HE.toArray⟩] 41 := (hkb Bn (by simp) hBn.lt).trans hBn
      have hBx3 : Blk W3 Bx [.int .i64 dp, .string ⟨PI.toArray⟩, .string ⟨HI.toArray⟩, .string ⟨OV.toArray⟩] 85 := (hkb Bx (by simp) hBx.lt).trans hBx
      have hE4 := hPc _ _ hJ4
      have a0 := hBn3.cell 0
      have a1 := hBn3.cell 1
      have a2 := hBn3.cell 2
      have b0 := hBx3.cell 0
      have b1 := hBx3.cell 1
      have b2 := hBx3.cell 2
      have b3 := hBx3.cell 3
      simp only [List.getElem?_cons_zero, List.getElem?_cons_succ] at a0 a1 a2 b0 b1 b2 b3
      clear n0 n1 n2 hR hy HY0
      gi_wp2
      refine ⟨trivial, ?_⟩
      refine (callsIn_wide.2 (HM.out _ hE4)).mono ?_
      rintro e w5 ⟨rfl, hq5⟩
      have hJ5 := hJ _ _ _ hJ4 hq5
      have hE5 := hPc _ _ hJ5
      have hEd : Env w5.drew := hE5.ofQ (Below.drew (Q.refl w5))
      have c0 : w5.drew.cell? ⟨Bn, 0, none⟩ = _ := qcell hq5 a0
      have c1 : w5.drew.cell? ⟨Bn, 1, none⟩ = _ := qcell hq5 a1
      have c2 : w5.drew.cell? ⟨Bn, 2, none⟩ = _ := qcell hq5 a2
      have d0 : w5.drew.cell? ⟨Bx, 0, none⟩ = _ := qcell hq5 b0
      have d1 : w5.drew.cell? ⟨Bx, 1, none⟩ = _ := qcell hq5 b1
      have d2 : w5.drew.cell? ⟨Bx, 2, none⟩ = _ := qcell hq5 b2
      have d3 : w5.drew.cell? ⟨Bx, 3, none⟩ = _ := qcell hq5 b3
      clear a0 a1 a2 b0 b1 b2 b3 HM
      gi_wp2
      refine RT.wpIn_steadily 26 hmix (by kernel_rfl) rfl ?_
      refine RT.svp 0 ?_
      refine RT.svp 1 ?_
      refine RT.svq 2 rfl (by intro w' hq; have hc0 := qcell hq c0; go_simp; try with_reducible rfl) ?_
      refine RT.svp 3 ?_
      refine RT.svq 4 rfl (by intro w' hq; have hc0 := qcell hq d3; go_simp; try with_reducible rfl) ?_
      refine RT.svp 5 ?_
      refine RT.svp 6 ?_
      refine RT.svp 7 ?_
      refine RT.svq 8 rfl (by intro w' hq; have hc0 := qcell hq c1; go_simp; try with_reducible rfl) ?_
      refine RT.steadily_call (i := 9) (v := _) rfl rfl (by kernel_rfl) (by kernel_rfl) (fun _ _ _ h => h) (by rfl) ?_ (fun w' hq => HO1.out w' (hEd.ofQ hq)) ?_
      · (intro w' hq; go_simp; try with_reducible rfl)
      simp only [Act.put, List.setIfInBounds_toArray, List.set_cons_zero, List.set_cons_succ]
      refine RT.svp 10 ?_
      refine RT.svp 11 ?_
      refine RT.svp 12 ?_
      refine RT.svp 13 ?_
      refine RT.svq 14 rfl (by intro w' hq; have hc0 := qcell hq c1; go_simp; try with_reducible rfl) ?_
      refine RT.svq 15 rfl (by intro w' hq; have hc0 := qcell hq d0; have hc1 := qcell hq d1; have hc2 := qcell hq d2; have hc3 := qcell hq d3; go_simp; try with_reducible rfl) ?_
      refine RT.steadily_call (i := 16) (v := _) rfl rfl (by kernel_rfl) (by kernel_rfl) (fun _ _ _ h => h) (by rfl) ?_ (fun w' hq => HR.out w' (hEd.ofQ hq)) ?_
      · (intro w' hq; go_simp; try with_reducible rfl)
      simp only [Act.put, List.setIfInBounds_toArray, List.set_cons_zero, List.set_cons_succ]
      refine RT.steadily_call (i := 17) (v := _) rfl rfl (by kernel_rfl) (by kernel_rfl) (fun _ _ _ h => h) (by rfl) ?_ (fun w' hq => HO2.out w' (hEd.ofQ hq)) ?_
      · (intro w' hq; go_simp; try with_reducible rfl)
      simp only [Act.put, List.setIfInBounds_toArray, List.set_cons_zero, List.set_cons_succ]
      refine RT.svp 18 ?_
      refine RT.svp 19 ?_
      refine RT.svp 20 ?_
      refine RT.svp 21 ?_
      refine RT.svq 22 rfl (by intro w' hq; have hc0 := qcell hq c2; go_simp; try with_reducible rfl) ?_
      refine RT.svp 23 ?_
      refine RT.svp 24 ?_
      refine RT.svp 25 ?_
      refine RT.steadily_done (by kernel_rfl) (fun w7 hq7 => ?_)
      simp only [List.drop_succ_cons, List.drop_zero]
      have hqq : Q w5 w7 := Q.trans (Below.drew (Q.refl w5)) hq7
      have hJ7 := hJ _ _ _ hJ5 hqq
      have hYK := HY1.out w7 hJ7 rfl
      obtain ⟨fn, tmps, assign, body, hy, hR⟩ := hYK
      clear c0 c1 c2 d0 d1 d2 d3 HO1 HO2 HR HC
      gi_wp2
      refine hR.mono ?_
      rintro e W9 (⟨rfl, hJ9, hk9⟩ | ⟨rfl, hJx9⟩)
      · gi_wp2
        go_end0
        exact ⟨⟨_, rfl⟩, .inl ⟨_, hp2, hJ9⟩⟩
      · gi_wp2
        go_end0
        exact ⟨⟨_, rfl⟩, .inr ⟨_, ⟨2, by omega, hp2⟩, hJx9⟩⟩
    · gi_wp2
      refine bodyPost_ret (results_none rfl _ _ _) rfl ?_
      exact ⟨⟨_, rfl⟩, .inr ⟨_, ⟨1, by omega, hp1⟩, hJx4⟩⟩
theorem checks_next (x : Raf) (hx : RafBd x) (q : Rat) (hq : NotchOk x q) (Bn Bx : Nat) (w : World) (m : Nat) (hm : 1 ≤ m) (hBn : Blk w Bn [.string ⟨(rstr (x.over : Rat)).toArray⟩, .string ⟨(rstr q).toArray⟩, .string ⟨(rstr (q * x.pitch)).toArray⟩] 41) (hBx : Blk w Bx (rafC x) 85) :
    SeqNextS m Tryz.prog 140 #[.pointer (some ⟨Bn, 0, none⟩), .pointer (some ⟨Bx, 0, none⟩)] chkEnc [Bn, Bx] (fun _ W => Env W) nxUp (fun ys => UpN 2 ys) (fun pre => ∃ k, k ≤ 2 ∧ UpN k pre) w := fun l J Jx W hW hPc hst hY h0 => by
  refine (checks1_nx x hx q hq m hm l Bn Bx J Jx hPc hY hst W (BlkK hBn hW) (BlkK hBx hW) h0).mono ?_
  rintro e W' ⟨hv, ⟨ys, hys, hJ⟩ | ⟨pre, hp, hJx⟩⟩
  · exact ⟨hv, .inl ⟨_, hys, hJ⟩⟩
  · exact ⟨hv, .inr ⟨pre, hp, hJx⟩⟩
end Go.Proofs.YtlbjjkmfcgcodaaGreatDoor
