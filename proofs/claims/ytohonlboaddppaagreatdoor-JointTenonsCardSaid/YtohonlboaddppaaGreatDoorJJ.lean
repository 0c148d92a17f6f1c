/-
  Walks of package joint: Birdsmouth, Deepest, of whatever rafter at an eaves.; Walks of package rational: the sums of a list, Sum.
-/
import Derived.Test.YtohonlboaddppaaGreatDoorJH
namespace Go.Proofs.YtohonlboaddppaaGreatDoor
open Go.RowKit Go.Shelf Kp
attribute [local go_sem] Oper.semAt_some
structure Sl3 where
  a : Option Addr
  n : Nat
  c : Nat
def Sl3.v (s : Sl3) : Value := .slice s.a s.n s.c
structure Ro where
  p : Sl3
  q : Sl3
  r : Sl3
  s : Sl3
def roC (x : Ro) : List Value := [x.p.v, x.q.v, x.r.v, x.s.v]
def OfC (w : World) (ro : Ro) (m : Mb) (x : Raf) : Prop := ∀ W, Env W → Q w W → Calls Tryz.prog 35 #[.agg (roC ro).toArray, .agg (mbC m).toArray] W fun e w' => e = .returned (.tuple #[.agg (rafC x).toArray, .int .i64 0]) ∧ Q W w'
structure RafBd (x : Raf) : Prop where
  d1 : 1 ≤ x.dep
  d2 : x.dep ≤ 1000
  p : Bd 5 x.pitch
  p0 : 0 < x.pitch.num
  r : Bd 37 x.run
  o : x.over.natAbs < 10 ^ 5
theorem RafBd.ov {x : Raf} (h : RafBd x) : Bd 5 (x.over : Rat) := bd_int h.o (by decide)
theorem num_pos_iff (q : Rat) : 0 < q ↔ 0 < q.num := by
  rw [Rat.lt_iff]
  simp
theorem results_notch {W : World} {b : Nat} {x y z v : Value} (h : Blk W b [x, y, z] 58) (fn : Func) (hf : fn.results = #[.cell 6 58, .tmp 7]) (tmps : Array Value)
    (hp : tmps.getD 6 undef = .pointer (some ⟨b, 0, none⟩)) (hp5 : tmps.getD 7 undef = v) :
    (results fn tmps).run Tryz.prog W = .ok (.tuple #[.agg #[x, y, z], v]) W := by
  have c0 := h.cell 0
  have c1 := h.cell 1
  have c2 := h.cell 2
  simp only [List.getElem?_cons_zero, List.getElem?_cons_succ] at c0 c1 c2
  simp only [Array.getD_eq_getD_getElem?] at hp hp5
  simp [results, hf, hp, hp5, go_sem, c0, c1, c2]
set_option maxRecDepth 100000 in
set_option maxHeartbeats 4000000 in
theorem joint_Birdsmouth (ro : Ro) (m : Mb) (x : Raf) (hx : RafBd x) (s : Int) (s1 : 1 ≤ s) (s2 : s ≤ 1000) (hs : (s : Rat) ≤ x.run - x.over) (w : World) (hE : Env w) (hof : OfC w ro m x) :
    Calls Tryz.prog 17 #[.agg (roC ro).toArray, .agg (mbC m).toArray, .int .i64 s] w fun e w' => e = .returned (.tuple #[.agg #[.string ⟨(rstr (x.over : Rat)).toArray⟩, .string ⟨(rstr (s : Rat)).toArray⟩, .string ⟨(rstr ((s : Rat) * x.pitch)).toArray⟩], .int .i64 0]) ∧ Q w w' := by
  have bs : Bd 4 (s : Rat) := bd_int (by omega) (by decide)
  have bo := hx.ov
  have HO := Lib.hid hof
  have HW := Lib.hid (fun w hw => joint_whole s (by omega) w hw)
  have HR := Lib.hid (fun w hw => joint_room x.dep (rstr x.pitch) x.run (x.over : Rat) hx.r bo (by decide) w hw)
  have HD := Lib.hid (fun w hw => joint_order (s : Rat) (x.run - x.over) bs (hx.r.less bo) (by decide) w hw)
  have HM := Lib.hid (fun w hw => rational_Mul_bd (s : Rat) x.pitch bs hx.p (by decide) w hw)
  have hor : decide (0 < ordF (s : Rat) (x.run - x.over)) = false := by
    rw [decide_eq_false_iff_not]
    by_cases h : (s : Rat) < x.run - x.over
    · rw [ordF_lt h]; decide
    · rw [← Rat.le_antisymm hs (Rat.not_lt.1 h), ordF_eq]; decide
  generalize ordF (s : Rat) (x.run - x.over) = od at *
  clear bs bo hx hs hof
  unfold OfC roC Sl3.v mbC rafC at HO
  unfold roC Sl3.v mbC
  obtain ⟨⟨a0, n0, c0⟩, ⟨a1, n1, c1⟩, ⟨a2, n2, c2⟩, ⟨a3, n3, c3⟩⟩ := ro
  obtain ⟨ki, fa, ot, fx, fy, fz, tx, ty, tz, wi, de⟩ := m
  obtain ⟨dp, pitch, run, over⟩ := x
  simp only at HO ⊢
  generalize rstr ((s : Rat) * pitch) = HE at *
  generalize rstr (run - (over : Rat)) = RM at *
  generalize rstr (s : Rat) = SS at *
  generalize rstr (over : Rat) = OV at *
  generalize rstr pitch = PI at *
  generalize rstr run = HI at *
  have e1 : decide (s < 1) = false := by rw [decide_eq_false_iff_not]; omega
  have e2 : decide ((1000 : Int) < s) = false := by rw [decide_eq_false_iff_not]; omega
  have BR := ((Blk.new w [.slice a0 n0 c0, .slice a1 n1 c1, .slice a2 n2 c2, .slice a3 n3 c3] 54).alloc (.cells #[.int .i64 ki, .int .i64 fa, .int .i64 ot, .string ⟨fx.toArray⟩, .string ⟨fy.toArray⟩, .string ⟨fz.toArray⟩, .string ⟨tx.toArray⟩, .string ⟨ty.toArray⟩, .string ⟨tz.toArray⟩, .int .i64 wi, .int .i64 de] 26)).alloc (.cells #[.string ⟨#[]⟩, .string ⟨#[]⟩, .string ⟨#[]⟩] 58)
  have BM := (Blk.new1 w (.cells #[.slice a0 n0 c0, .slice a1 n1 c1, .slice a2 n2 c2, .slice a3 n3 c3] 54) [.int .i64 ki, .int .i64 fa, .int .i64 ot, .string ⟨fx.toArray⟩, .string ⟨fy.toArray⟩, .string ⟨fz.toArray⟩, .string ⟨tx.toArray⟩, .string ⟨ty.toArray⟩, .string ⟨tz.toArray⟩, .int .i64 wi, .int .i64 de] 26).alloc (.cells #[.string ⟨#[]⟩, .string ⟨#[]⟩, .string ⟨#[]⟩] 58)
  have BZ := Blk.new2 w (.cells #[.slice a0 n0 c0, .slice a1 n1 c1, .slice a2 n2 c2, .slice a3 n3 c3] 54) (.cells #[.int .i64 ki, .int .i64 fa, .int .i64 ot, .string ⟨fx.toArray⟩, .string ⟨fy.toArray⟩, .string ⟨fz.toArray⟩, .string ⟨tx.toArray⟩, .string ⟨ty.toArray⟩, .string ⟨tz.toArray⟩, .int .i64 wi, .int .i64 de] 26) [.string ⟨#[]⟩, .string ⟨#[]⟩, .string ⟨#[]⟩] 58
  obtain ⟨W0, hW0⟩ : ∃ W0, ((w.alloc (.cells #[.slice a0 n0 c0, .slice a1 n1 c1, .slice a2 n2 c2, .slice a3 n3 c3] 54)).alloc (.cells #[.int .i64 ki, .int .i64 fa, .int .i64 ot, .string ⟨fx.toArray⟩, .string ⟨fy.toArray⟩, .string ⟨fz.toArray⟩, .string ⟨tx.toArray⟩, .string ⟨ty.toArray⟩, .string ⟨tz.toArray⟩, .int .i64 wi, .int .i64 de] 26)).alloc (.cells #[.string ⟨#[]⟩, .string ⟨#[]⟩, .string ⟨#[]⟩] 58) = W0 := ⟨_, rfl⟩
  have hq0 : Q w W0 := by rw [← hW0]; exact bt
  have hs0 : W0.heap.size = w.heap.size + 3 := by rw [← hW0]; simp
  have hEw := hE.ofQ hq0
  rw [hW0] at BR BM
  have BZ : Blk W0 (w.heap.size + 2) [.string ⟨#[]⟩, .string ⟨#[]⟩, .string ⟨#[]⟩] 58 := by rw [← hW0]; exact BZ
  clear hE
  have hE := hEw
  clear hEw
  have hQ0 := Q.refl W0
  replace r0 := BR.cell 0
  replace r1 := BR.cell 1
  replace r2 := BR.cell 2
  replace r3 := BR.cell 3
  simp only [List.getElem?_cons_zero, List.getElem?_cons_succ] at r0 r1 r2 r3
  replace lBR := BR.lt
  replace m0 := BM.cell 0
  replace m1 := BM.cell 1
  replace m2 := BM.cell 2
  replace m3 := BM.cell 3
  replace m4 := BM.cell 4
  replace m5 := BM.cell 5
  replace m6 := BM.cell 6
  replace m7 := BM.cell 7
  replace m8 := BM.cell 8
  replace m9 := BM.cell 9
  replace m10 := BM.cell 10
  simp only [List.getElem?_cons_zero, List.getElem?_cons_succ] at m0 m1 m2 m3 m4 m5 m6 m7 m8 m9 m10
  replace lBM := BM.lt
  go_enter Tryz.func17, Tryz.ntmps17
  go_wp2_with fail
  clear hW0
  refine (HO.out _ hE hq0).mono ?_
  rintro e Y1 ⟨rfl, hq1⟩
  have hQ1 : Q w Y1 := Q.trans hq0 hq1
  replace BZ := BlkK BZ hq1
  have X := Blk.new Y1 [.int .i64 dp, .string ⟨PI.toArray⟩, .string ⟨HI.toArray⟩, .string ⟨OV.toArray⟩] 100
  obtain ⟨W2, hW2⟩ : ∃ W2, Y1.alloc (.cells #[.int .i64 dp, .string ⟨PI.toArray⟩, .string ⟨HI.toArray⟩, .string ⟨OV.toArray⟩] 100) = W2 := ⟨_, rfl⟩
  have X : Blk W2 Y1.heap.size [.int .i64 dp, .string ⟨PI.toArray⟩, .string ⟨HI.toArray⟩, .string ⟨OV.toArray⟩] 100 := by rw [← hW2]; exact X
  have hqW : Q Y1 W2 := by rw [← hW2]; exact bt
  have hE2 := hE.ofQ (Q.trans hq1 hqW)
  have hwW : Q w W2 := Q.trans hQ1 hqW
  replace BZ := BlkK BZ hqW
  have x0 := X.cell 0
  have x1 := X.cell 1
  have x2 := X.cell 2
  have x3 := X.cell 3
  simp only [List.getElem?_cons_zero, List.getElem?_cons_succ] at x0 x1 x2 x3
  clear hE HO BR BM r0 r1 r2 r3 m0 m1 m2 m3 m4 m5 m6 m7 m8 m9 m10 lBR lBM
  have hE := hE2
  clear hE2
  go_wp2_with fail
  clear hW2
  have hEd : Env W2.drew := hE.ofQ (Below.drew (Q.refl W2))
  refine wp_steadily 7 rfl (by kernel_rfl) rfl ?_
  refine svp 0 ?_
  refine steadily_call (i := 1) (v := _) rfl rfl (by kernel_rfl) (by kernel_rfl) (fun _ _ _ h => h) (by rfl) ?_ (fun w' hq => HW.out w' (hEd.ofQ hq)) ?_
  · (intro w' hq; go_simp; try with_reducible rfl)
  simp only [Act.put, List.setIfInBounds_toArray, List.set_cons_zero, List.set_cons_succ]
  refine svq 2 rfl (by intro w' hq; have hc0 := qcell hq x0; have hc1 := qcell hq x1; have hc2 := qcell hq x2; have hc3 := qcell hq x3; go_simp; try with_reducible rfl) ?_
  refine steadily_call (i := 3) (v := _) rfl rfl (by kernel_rfl) (by kernel_rfl) (fun _ _ _ h => h) (by rfl) ?_ (fun w' hq => HR.out w' (hEd.ofQ hq)) ?_
  · (intro w' hq; go_simp; try with_reducible rfl)
  simp only [Act.put, List.setIfInBounds_toArray, List.set_cons_zero, List.set_cons_succ]
  refine steadily_call (i := 4) (v := _) rfl rfl (by kernel_rfl) (by kernel_rfl) (fun _ _ _ h => h) (by rfl) ?_ (fun w' hq => HD.out w' (hEd.ofQ hq)) ?_
  · (intro w' hq; go_simp; try with_reducible rfl)
  simp only [Act.put, List.setIfInBounds_toArray, List.set_cons_zero, List.set_cons_succ]
  refine svp 5 ?_
  refine svp 6 ?_
  refine steadily_done (by kernel_rfl) (fun w3 hq3 => ?_)
  simp only [List.drop_succ_cons, List.drop_nil]
  have hqa : Q W2 w3 := Q.trans (Below.drew (Q.refl W2)) hq3
  have y1 := qcell hqa x1
  have hEe : Env w3.drew := hE.ofQ (Q.trans hqa (Below.drew (Q.refl w3)))
  clear hq3 HR HD hEd
  go_wp2_with fail
  refine wp_steadily 10 rfl (by kernel_rfl) rfl ?_
  refine svp 0 ?_
  refine steadily_call (i := 1) (v := _) rfl rfl (by kernel_rfl) (by kernel_rfl) (fun _ _ _ h => h) (by rfl) ?_ (fun w' hq => HW.out w' (hEe.ofQ hq)) ?_
  · (intro w' hq; go_simp; try with_reducible rfl)
  simp only [Act.put, List.setIfInBounds_toArray, List.set_cons_zero, List.set_cons_succ]
  refine svp 2 ?_
  refine svq 3 rfl (by intro w' hq; have hc0 := qcell hq y1; go_simp; try with_reducible rfl) ?_
  refine steadily_call (i := 4) (v := _) rfl rfl (by kernel_rfl) (by kernel_rfl) (fun _ _ _ h => h) (by rfl) ?_ (fun w' hq => HM.out w' (hEe.ofQ hq)) ?_
  · (intro w' hq; go_simp; try with_reducible rfl)
  simp only [Act.put, List.setIfInBounds_toArray, List.set_cons_zero, List.set_cons_succ]
  refine svp 5 ?_
  refine svp 6 ?_
  refine svp 7 ?_
  refine svp 8 ?_
  refine svp 9 ?_
  refine steadily_done (by kernel_rfl) (fun w5 hq5 => ?_)
  simp only [List.drop_succ_cons, List.drop_nil]
  have hqb : Q W2 w5 := Q.trans hqa (Q.trans (Below.drew (Q.refl w3)) hq5)
  have y3 := qcell hqb x3
  have hEf : Env w5.drew := hE.ofQ (Q.trans hqb (Below.drew (Q.refl w5)))
  clear hq5 HM hEe
  go_wp2_with fail
  refine wp_steadily 6 rfl (by kernel_rfl) rfl ?_
  refine svp 0 ?_
  refine svq 1 rfl (by intro w' hq; have hc0 := qcell hq y3; go_simp; try with_reducible rfl) ?_
  refine svp 2 ?_
  refine steadily_call (i := 3) (v := _) rfl rfl (by kernel_rfl) (by kernel_rfl) (fun _ _ _ h => h) (by rfl) ?_ (fun w' hq => HW.out w' (hEf.ofQ hq)) ?_
  · (intro w' hq; go_simp; try with_reducible rfl)
  simp only [Act.put, List.setIfInBounds_toArray, List.set_cons_zero, List.set_cons_succ]
  refine svp 4 ?_
  refine svp 5 ?_
  refine steadily_done (by kernel_rfl) (fun w7 hq7 => ?_)
  simp only [List.drop_succ_cons, List.drop_zero]
  have hqc : Q W2 w7 := Q.trans hqb (Q.trans (Below.drew (Q.refl w5)) hq7)
  replace BZ := BlkK BZ hqc
  have z0 := BZ.cell 0
  have z1 := BZ.cell 1
  have z2 := BZ.cell 2
  simp only [List.getElem?_cons_zero, List.getElem?_cons_succ] at z0 z1 z2
  have g0 := BZ.frozen 0
  have g1 := BZ.frozen 1
  have g2 := BZ.frozen 2
  have hbz : w.heap.size ≤ w.heap.size + 2 := by omega
  have Zf := ((BZ.set 0 (.string ⟨OV.toArray⟩)).set 1 (.string ⟨SS.toArray⟩)).set 2 (.string ⟨HE.toArray⟩)
  simp only [List.set_cons_zero, List.set_cons_succ] at Zf
  have hQe := (((Q.trans hwW hqc).setCell (p := ⟨w.heap.size + 2, 0, none⟩) hbz (.string ⟨OV.toArray⟩)).setCell (p := ⟨w.heap.size + 2, 1, none⟩) hbz (.string ⟨SS.toArray⟩)).setCell (p := ⟨w.heap.size + 2, 2, none⟩) hbz (.string ⟨HE.toArray⟩)
  clear hq7 HW hEf x0 x1 x2 x3 X y1 y3
  go_wp2_with (exact bodyPost_ret (results_notch Zf Tryz.f17 rfl _ rfl rfl) rfl ⟨rfl, hQe⟩)
set_option maxRecDepth 100000 in
set_option maxHeartbeats 4000000 in
theorem joint_Deepest (ro : Ro) (m : Mb) (x : Raf) (hx : RafBd x) (y : Rat) (hy : (x.dep : Rat) / (x.pitch * 3) = y) (by0 : Bd 12 y) (hl : y < x.run - x.over) (w : World) (hE : Env w) (hof : OfC w ro m x) :
    Calls Tryz.prog 19 #[.agg (roC ro).toArray, .agg (mbC m).toArray] w fun e w' => e = .returned (.tuple #[.string ⟨(rstr y).toArray⟩, .int .i64 0]) ∧ Q w w' := by
  have bo := hx.ov
  have b3 : Bd 1 (3 : Rat) := ⟨by decide, by decide⟩
  have bd : Bd 4 (x.dep : Rat) := bd_int (by have := hx.d1; have := hx.d2; omega) (by decide)
  have bp := hx.p.mul b3
  have hp0 : 0 < (x.pitch * 3).num := by
    have h1 : 0 < x.pitch := (num_pos_iff _).2 hx.p0
    exact (num_pos_iff _).1 (by grind)
  have HO := Lib.hid hof
  have HW := Lib.hid (fun w hw => joint_whole x.dep (by have := hx.d1; have := hx.d2; omega) w hw)
  have HR := Lib.hid (fun w hw => joint_room x.dep (rstr x.pitch) x.run (x.over : Rat) hx.r bo (by decide) w hw)
  have HD := Lib.hid (fun w hw => joint_order (x.run - x.over) y (hx.r.less bo) by0 (by decide) w hw)
  rw [ordF_gt hl] at HD
  have HM := Lib.hid (fun w hw => rational_Mul_bd x.pitch 3 hx.p b3 (by decide) w hw)
  have HV := Lib.hid (fun w hw => rational_Div_bd (x.dep : Rat) (x.pitch * 3) bd bp (by intro h; rw [h] at hp0; exact absurd hp0 (by decide)) (by decide) w hw)
  rw [hy] at HV
  rw [show rstr (3 : Rat) = [51] from by kernel_rfl] at HM
  clear bo b3 bd bp hp0 hx hy by0 hl hof
  unfold OfC roC Sl3.v mbC rafC at HO
  unfold roC Sl3.v mbC
  obtain ⟨⟨a0, n0, c0⟩, ⟨a1, n1, c1⟩, ⟨a2, n2, c2⟩, ⟨a3, n3, c3⟩⟩ := ro
  obtain ⟨ki, fa, ot, fx, fy, fz, tx, ty, tz, wi, de⟩ := m
  obtain ⟨dp, pitch, run, over⟩ := x
  simp only at HO ⊢
  generalize rstr y = YY at *
  generalize rstr (pitch * 3) = P3 at *
  generalize rstr (run - (over : Rat)) = RM at *
  generalize rstr (dp : Rat) = DD at *
  generalize rstr (over : Rat) = OV at *
  generalize rstr pitch = PI at *
  generalize rstr run = HI at *
  have BR := (Blk.new w [.slice a0 n0 c0, .slice a1 n1 c1, .slice a2 n2 c2, .slice a3 n3 c3] 54).alloc (.cells #[.int .i64 ki, .int .i64 fa, .int .i64 ot, .string ⟨fx.toArray⟩, .string ⟨fy.toArray⟩, .string ⟨fz.toArray⟩, .string ⟨tx.toArray⟩, .string ⟨ty.toArray⟩, .string ⟨tz.toArray⟩, .int .i64 wi, .int .i64 de] 26)
  have BM := Blk.new1 w (.cells #[.slice a0 n0 c0, .slice a1 n1 c1, .slice a2 n2 c2, .slice a3 n3 c3] 54) [.int .i64 ki, .int .i64 fa, .int .i64 ot, .string ⟨fx.toArray⟩, .string ⟨fy.toArray⟩, .string ⟨fz.toArray⟩, .string ⟨tx.toArray⟩, .string ⟨ty.toArray⟩, .string ⟨tz.toArray⟩, .int .i64 wi, .int .i64 de] 26
  obtain ⟨W0, hW0⟩ : ∃ W0, (w.alloc (.cells #[.slice a0 n0 c0, .slice a1 n1 c1, .slice a2 n2 c2, .slice a3 n3 c3] 54)).alloc (.cells #[.int .i64 ki, .int .i64 fa, .int .i64 ot, .string ⟨fx.toArray⟩, .string ⟨fy.toArray⟩, .string ⟨fz.toArray⟩, .string ⟨tx.toArray⟩, .string ⟨ty.toArray⟩, .string ⟨tz.toArray⟩, .int .i64 wi, .int .i64 de] 26) = W0 := ⟨_, rfl⟩
  have hq0 : Q w W0 := by rw [← hW0]; exact bt
  have hEw := hE.ofQ hq0
  rw [hW0] at BR
  have BM : Blk W0 (w.heap.size + 1) [.int .i64 ki, .int .i64 fa, .int .i64 ot, .string ⟨fx.toArray⟩, .string ⟨fy.toArray⟩, .string ⟨fz.toArray⟩, .string ⟨tx.toArray⟩, .string ⟨ty.toArray⟩, .string ⟨tz.toArray⟩, .int .i64 wi, .int .i64 de] 26 := by rw [← hW0]; exact BM
  clear hE
  have hE := hEw
  clear hEw
  have hQ0 := Q.refl W0
  replace r0 := BR.cell 0
  replace r1 := BR.cell 1
  replace r2 := BR.cell 2
  replace r3 := BR.cell 3
  simp only [List.getElem?_cons_zero, List.getElem?_cons_succ] at r0 r1 r2 r3
  replace lBR := BR.lt
  replace m0 := BM.cell 0
  replace m1 := BM.cell 1
  replace m2 := BM.cell 2
  replace m3 := BM.cell 3
  replace m4 := BM.cell 4
  replace m5 := BM.cell 5
  replace m6 := BM.cell 6
  replace m7 := BM.cell 7
  replace m8 := BM.cell 8
  replace m9 := BM.cell 9
  replace m10 := BM.cell 10
  simp only [List.getElem?_cons_zero, List.getElem?_cons_succ] at m0 m1 m2 m3 m4 m5 m6 m7 m8 m9 m10
  replace lBM := BM.lt
  go_enter Tryz.func19, Tryz.ntmps19
  go_wp2_with fail
  clear hW0
  refine (HO.out _ hE hq0).mono ?_
  rintro e Y1 ⟨rfl, hq1⟩
  have hQ1 : Q w Y1 := Q.trans hq0 hq1
  have X := Blk.new Y1 [.int .i64 dp, .string ⟨PI.toArray⟩, .string ⟨HI.toArray⟩, .string ⟨OV.toArray⟩] 100
  obtain ⟨W2, hW2⟩ : ∃ W2, Y1.alloc (.cells #[.int .i64 dp, .string ⟨PI.toArray⟩, .string ⟨HI.toArray⟩, .string ⟨OV.toArray⟩] 100) = W2 := ⟨_, rfl⟩
  have X : Blk W2 Y1.heap.size [.int .i64 dp, .string ⟨PI.toArray⟩, .string ⟨HI.toArray⟩, .string ⟨OV.toArray⟩] 100 := by rw [← hW2]; exact X
  have hqW : Q Y1 W2 := by rw [← hW2]; exact bt
  have hE2 := hE.ofQ (Q.trans hq1 hqW)
  have hwW : Q w W2 := Q.trans hQ1 hqW
  clear hE HO BR BM r0 r1 r2 r3 m0 m1 m2 m3 m4 m5 m6 m7 m8 m9 m10 lBR lBM
  have hE := hE2
  clear hE2
  have hQ0 := Q.refl W2
  replace x0 := X.cell 0
  replace x1 := X.cell 1
  replace x2 := X.cell 2
  replace x3 := X.cell 3
  simp only [List.getElem?_cons_zero, List.getElem?_cons_succ] at x0 x1 x2 x3
  replace lX := X.lt
  go_wp2_with fail
  clear hW2
  refine (HM.out _ (hE.ofQ bt)).mono ?_
  rintro e Z1 ⟨rfl, hq1⟩
  have hs1 : Q W2 Z1 := Q.trans bt hq1
  have hQ1 : Q W2 Z1 := Q.trans hQ0 hs1
  replace X := X.keep hs1 X.lt
  replace x0 := X.cell 0
  replace x1 := X.cell 1
  replace x2 := X.cell 2
  replace x3 := X.cell 3
  simp only [List.getElem?_cons_zero, List.getElem?_cons_succ] at x0 x1 x2 x3
  replace lX := X.lt
  go_wp2_with fail
  refine (HW.out _ (hE.ofQ bt)).mono ?_
  rintro e Z2 ⟨rfl, hq2⟩
  have hs2 : Q Z1 Z2 := Q.trans bt hq2
  have hQ2 : Q W2 Z2 := Q.trans hQ1 hs2
  replace X := X.keep hs2 X.lt
  replace x0 := X.cell 0
  replace x1 := X.cell 1
  replace x2 := X.cell 2
  replace x3 := X.cell 3
  simp only [List.getElem?_cons_zero, List.getElem?_cons_succ] at x0 x1 x2 x3
  replace lX := X.lt
  go_wp2_with fail
  refine (HV.out _ (hE.ofQ bt)).mono ?_
  rintro e Z3 ⟨rfl, hq3⟩
  have hs3 : Q Z2 Z3 := Q.trans bt hq3
  have hQ3 : Q W2 Z3 := Q.trans hQ2 hs3
  replace X := X.keep hs3 X.lt
  replace x0 := X.cell 0
  replace x1 := X.cell 1
  replace x2 := X.cell 2
  replace x3 := X.cell 3
  simp only [List.getElem?_cons_zero, List.getElem?_cons_succ] at x0 x1 x2 x3
  replace lX := X.lt
  go_wp2_with fail
  refine (HR.out _ (hE.ofQ bt)).mono ?_
  rintro e Z4 ⟨rfl, hq4⟩
  have hs4 : Q Z3 Z4 := Q.trans bt hq4
  have hQ4 : Q W2 Z4 := Q.trans hQ3 hs4
  replace X := X.keep hs4 X.lt
  replace x0 := X.cell 0
  replace x1 := X.cell 1
  replace x2 := X.cell 2
  replace x3 := X.cell 3
  simp only [List.getElem?_cons_zero, List.getElem?_cons_succ] at x0 x1 x2 x3
  replace lX := X.lt
  go_wp2_with fail
  refine (HD.out _ (hE.ofQ bt)).mono ?_
  rintro e Z5 ⟨rfl, hq5⟩
  have hs5 : Q Z4 Z5 := Q.trans bt hq5
  have hQ5 : Q W2 Z5 := Q.trans hQ4 hs5
  replace X := X.keep hs5 X.lt
  replace x0 := X.cell 0
  replace x1 := X.cell 1
  replace x2 := X.cell 2
  replace x3 := X.cell 3
  simp only [List.getElem?_cons_zero, List.getElem?_cons_succ] at x0 x1 x2 x3
  replace lX := X.lt
  have hQe := Q.trans hwW hQ5
  go_wp2
  go_ret2
  exact ⟨rfl, hQe⟩
end Go.Proofs.YtohonlboaddppaaGreatDoor
namespace Go.Proofs.YtohonlboaddppaaGreatDoor
open Go.RowKit Go.Shelf Kp
attribute [local go_sem] Oper.semAt_some
def sumN (qs : List Rat) : Nat → Rat
  | 0 => 0
  | k + 1 => sumN qs k + qs.getD k 0
theorem bd_nil {n : Nat} (h : 0 < n) : Bd n (0 : Rat) := ⟨Nat.pow_pos (by decide), Nat.one_lt_pow (by omega) (by decide)⟩
theorem getD_bd {qs : List Rat} (h : ∀ q ∈ qs, Bd 10 q) (k : Nat) : Bd 10 (qs.getD k 0) := by
  rw [List.getD_eq_getElem?_getD]
  cases hk : qs[k]? with
  | none => exact bd_nil (by decide)
  | some q => exact h q (List.mem_of_getElem? hk)
theorem sumN_bd {qs : List Rat} (h : ∀ q ∈ qs, Bd 10 q) : ∀ k, Bd (1 + 11 * k) (sumN qs k)
  | 0 => bd_nil (by decide)
  | k + 1 => ((sumN_bd h k).add (getD_bd h k)).mono (by omega)
def NumsAt (w : World) (b o : Nat) (qs : List Rat) : Prop := ∀ i, i < qs.length → w.cell? ⟨b, o + i, none⟩ = some (.string ⟨(rstr (qs.getD i 0)).toArray⟩)
def sumEnc (qs : List Rat) (x : PlN qs.length) : Array Value := #[.string ⟨(rstr (sumN qs (x.1 + 1))).toArray⟩, .int .i64 0]
set_option maxRecDepth 100000 in
set_option maxHeartbeats 2000000 in
theorem sums1_nx (m : Nat) (hm : 1 ≤ m) (l Bs b o cap : Nat) (qs : List Rat) (hq : ∀ q ∈ qs, Bd 10 q) (hn : qs.length ≤ 20) (J Jx : List (PlN qs.length) → World → Prop) (hPc : ∀ pre W, J pre W → Env W)
    (hY : ∀ pre x W, J pre W → nxUp pre x → YieldAt Fence.wide (m - 1) Tryz.prog l (sumEnc qs x) W fun e W' =>
      (e = .returned (.bool true) ∧ J (pre ++ [x]) W' ∧ KeepB [Bs, b] W W') ∨ (e = .returned (.bool false) ∧ Jx (pre ++ [x]) W'))
    (hJ : ∀ pre W W', J pre W → Q W W' → J pre W')
    (W : World) (hBs : W.cell? ⟨Bs, 0, none⟩ = some (.slice (some ⟨b, o, none⟩) qs.length cap)) (hN : NumsAt W b o qs) (h0 : J [] W) :
    CallsIn Fence.wide m Tryz.prog 47 #[.func (.yield l) #[] #[], .pointer (some ⟨Bs, 0, none⟩)] W fun e W' => (∃ v, e = .returned v) ∧
      ((∃ ys, UpN qs.length ys ∧ J ys W') ∨ (∃ pre, (∃ k, k ≤ qs.length ∧ UpN k pre) ∧ Jx pre W')) := by
  refine callsIn_of_wp Tryz.func47 rfl trivial ?_ rfl
  simp only [Tryz.ntmps47, List.size_toArray, List.length_cons, List.length_nil, Nat.reduceAdd, Nat.reduceSub, Array.replicate_succ, Array.replicate_zero, List.push_toArray, List.append_toArray, List.nil_append, List.cons_append]
  have HA : Hid (∀ k, k < qs.length → ∀ w, Env w → Calls Tryz.prog 41 #[.string ⟨(rstr (sumN qs k)).toArray⟩, .string ⟨(rstr (qs.getD k 0)).toArray⟩] w fun e w' => e = .returned (.tuple #[.string ⟨(rstr (sumN qs (k + 1))).toArray⟩, .int .i64 0]) ∧ Q w w') := Lib.hid (fun k hk w hw => by
    have := rational_Add_bd (sumN qs k) (qs.getD k 0) (sumN_bd hq k) (getD_bd hq k) (by omega) w hw
    exact this)
  have HN := Lib.hid hN
  clear hq hN
  have hz : rstr (sumN qs 0) = [48] := rstr_zero
  gi_wp2
  gi_loopw [9, 3] (fun i s wr => ∃ k : Nat, k ≤ qs.length ∧ i = .int .i64 k ∧ s = .string ⟨(rstr (sumN qs k)).toArray⟩ ∧ (∃ pre, UpN k pre ∧ J pre wr) ∧ KeepB [Bs, b] W wr) (fun i _ _ => qs.length - (intOf i).toNat)
  case atStart => exact ⟨0, Nat.zero_le _, by simp, by rw [hz], ⟨[], rfl, h0⟩, KeepB.refl _ _⟩
  case round =>
    obtain ⟨k, hk, rfl, rfl, ⟨pre, hpre, hJs⟩, hnx⟩ := hrel
    have hBs2 := hnx.cell (by simp) hBs
    by_cases hlt : k < qs.length
    · have hYk := hY pre ⟨k, hlt⟩
      have hnext := hpre.next ⟨k, hlt⟩ rfl
      have hpl := hpre.len
      have hc : wr.cell? ⟨b, o + k, none⟩ = some (.string ⟨(rstr (qs.getD k 0)).toArray⟩) := hnx.cell (by simp) (HN.out k hlt)
      have HAk := Lib.hid (HA.out k hlt)
      unfold sumEnc at hYk
      simp only at hYk
      generalize rstr (sumN qs k) = S at *
      obtain ⟨S', hS⟩ : ∃ S', rstr (sumN qs (k + 1)) = S' := ⟨_, rfl⟩
      rw [hS] at HAk hYk
      have HS := Lib.hid hS
      clear hS
      generalize rstr (qs.getD k 0) = T at *
      have HYK := Lib.hid hYk
      have hk0 : (0 : Int) ≤ k := by omega
      have hkl : (k : Int) < qs.length := by omega
      have hEr := hPc _ _ hJs
      clear hYk HA HN hz
      gi_wp2
      refine ⟨trivial, ?_⟩
      refine (callsIn_wide.2 (HAk.out wr hEr)).mono ?_
      rintro e w3 ⟨rfl, hq3⟩
      have hJ3 := hJ _ _ _ hJs hq3
      have hnx3 : KeepB [Bs, b] W w3 := hnx.trans (KeepB.q hq3)
      have hYK := HYK.out w3 hJ3 hpl.symm
      obtain ⟨fn, tmps, assign, body, hy, hR⟩ := hYK
      clear HAk HYK
      gi_wp2
      refine hR.mono ?_
      rintro e W3 (⟨rfl, hJ4, hk4⟩ | ⟨rfl, hJx4⟩)
      · gi_wp2
        go_roundw
        case rel => exact ⟨k + 1, by omega, by go_num, by rw [HS.out], ⟨_, hnext, hJ4⟩, hnx3.trans hk4⟩
        case measure => simp [intOf]; omega
      · gi_wp2
        refine bodyPost_ret (results_none rfl _ _ _) rfl ?_
        exact ⟨⟨_, rfl⟩, .inr ⟨_, ⟨k + 1, by omega, hnext⟩, hJx4⟩⟩
    · obtain rfl : k = qs.length := by omega
      gi_wp2
      go_end0
      exact ⟨⟨_, rfl⟩, .inl ⟨_, hpre, hJs⟩⟩
theorem sums_next (Bs b o cap : Nat) (qs : List Rat) (hq : ∀ q ∈ qs, Bd 10 q) (hn : qs.length ≤ 20) (w : World) (m : Nat) (hm : 1 ≤ m) (hBs : w.cell? ⟨Bs, 0, none⟩ = some (.slice (some ⟨b, o, none⟩) qs.length cap)) (hN : NumsAt w b o qs) :
    SeqNextS m Tryz.prog 47 #[.pointer (some ⟨Bs, 0, none⟩)] (sumEnc qs) [Bs, b] (fun _ W => Env W) nxUp (fun ys => UpN qs.length ys) (fun pre => ∃ k, k ≤ qs.length ∧ UpN k pre) w := fun l J Jx W hW hPc hst hY h0 => by
  refine (sums1_nx m hm l Bs b o cap qs hq hn J Jx hPc hY hst W (qcell hW hBs) (fun i hi => qcell hW (hN i hi)) h0).mono ?_
  rintro e W' ⟨hv, ⟨ys, hys, hJ⟩ | ⟨pre, hp, hJx⟩⟩
  · exact ⟨hv, .inl ⟨_, hys, hJ⟩⟩
  · exact ⟨hv, .inr ⟨pre, hp, hJx⟩⟩
theorem rational_sums (a : Option Addr) (n c : Nat) (w : World) : Calls Tryz.prog 23 #[.slice a n c] w fun e w' => e = .returned (.func (.func 47) #[] #[.pointer (some ⟨w.heap.size, 0, none⟩)]) ∧ w' = w.alloc (.cells #[.slice a n c] 32) := by
  go_enter Tryz.func23, Tryz.ntmps23
  go_wp2
  go_ret
  exact ⟨rfl, rfl⟩
section
variable {P : Program} {g : Operand} {ps : Array Tmp} {assign body : Code} {R : Exit → Act → World → Prop} {a : Act} {w : World} {m gf N : Nat} {lb : Array Value} {bs : List Nat}
theorem wpIn_rangeFunc_upP (Pc : World → Prop) (hm : 1 ≤ m) (hg : a.eval g = .func (.func gf) #[] lb) (eg : ∀ args w, (callFunc gf args).run P w = .ok (.enter gf args) w)
    {encs : PlN N → Array Value} (hseq : SeqNextS (m - 1) P gf lb encs bs (fun _ W => Pc W) nxUp (fun ys => UpN N ys) (fun pre => ∃ k, k ≤ N ∧ UpN k pre) w) (hbs : ∀ k ∈ bs, k < w.heap.size) (hps : ∀ x, (encs x).size = ps.size)
    (I : Nat → World → Prop) (Ix : Code → World → Prop) (hPc : ∀ k W, I k W → Pc W) (hI : ∀ k W W', I k W → KC W W' → Below w.heap.size W W' → I k W') (hIx : ∀ c W W', Ix c W → KC W W' → Below w.heap.size W W' → Ix c W') (h0 : I 0 w) (AS : PlN N → Act → World → Prop) (hAS : ∀ x a1 W W', AS x a1 W → KC W W' → AS x a1 W')
    (hassign : ∀ (l : Nat) (x : PlN N) (W : World) (K : Act → World → Prop), w.heap.size ≤ W.heap.size → (∀ a1 W', Q W W' → AS x a1 W' → K a1 W') →
      assign.wpIn (Fence.wide.inRound l) (m - 1 - 1) P (Exit.then K (fun _ _ _ => False)) { tmps := (ps.zip (encs x)).foldl (fun t (p, v) => t.setIfInBounds p v) a.tmps, defers := [] } W)
    (hbody : ∀ (l k : Nat) (hk : k < N) (a1 : Act) (W : World), I k W → AS ⟨k, hk⟩ a1 W → body.wpIn (Fence.wide.inRound l) (m - 1 - 1) P (roundUp w.heap.size bs I Ix (k + 1) W) a1 W)
    (hdone : ∀ (D : Nat) (W : World), w.heap.size ≤ D → I N W → W.heap[D]? = some (.deferred (some [])) → R .normal { a with defers := { target := .collected D, args := #[] } :: a.defers } W)
    (hstop : ∀ (D : Nat) (c : Code) (W : World), w.heap.size ≤ D → Ix c W → W.heap[D]? = some (.deferred (some [])) → c.wpIn Fence.wide m P R { a with defers := { target := .collected D, args := #[] } :: a.defers } W) :
    (Code.rangeFunc g ps assign body).wpIn Fence.wide m P R a w := by
  refine wpIn_rangeFunc_nextS hm hg eg hseq hbs hps (fun pre W => I pre.length W) (fun c _ W => Ix c W) (fun _ W h => hPc _ W h) (fun pre W W' h k hb => hI _ W W' h k hb) (fun c _ W W' h k hb => hIx c W W' h k hb) h0 AS hAS hassign ?_ ?_ ?_
  · intro l pre x a1 W hi hx hs
    obtain ⟨k, hk⟩ := x
    have e : pre.length = k := hx.symm
    subst e
    refine wpIn_mono (hbody l pre.length hk a1 W hi hs) ?_
    intro e a3 W3 hp
    cases e with
    | normal => exact ⟨hp.1, hp.2.1, by
      show I (pre ++ [_]).length W3
      rw [List.length_append, List.length_singleton]; exact hp.2.2⟩
    | ret => exact hp
    | exit id => exact hp
    | goto t => exact hp
    | panic ch => exact hp
    | outgrown => exact hp
  · intro D xs W hD hS hi hk
    exact hdone D W hD (by rw [hS.len] at hi; exact hi) hk
  · intro D c pre W hD hSp hi hk
    exact hstop D c W hD hi hk
end
theorem results_two {W : World} {b c : Nat} {x y : Value} (h1 : W.cell? ⟨b, 0, none⟩ = some x) (h2 : W.cell? ⟨c, 0, none⟩ = some y) (fn : Func) (hf : fn.results = #[.cell 2 22, .cell 3 29]) (tmps : Array Value)
    (hp : tmps.getD 2 undef = .pointer (some ⟨b, 0, none⟩)) (hp3 : tmps.getD 3 undef = .pointer (some ⟨c, 0, none⟩)) : (results fn tmps).run Tryz.prog W = .ok (.tuple #[x, y]) W := by
  simp only [Array.getD_eq_getD_getElem?] at hp hp3
  simp [results, hf, hp, hp3, go_sem, h1, h2]
set_option maxRecDepth 100000 in
set_option maxHeartbeats 4000000 in
theorem sum_in (b o cap : Nat) (qs : List Rat) (hq : ∀ q ∈ qs, Bd 10 q) (hn : qs.length ≤ 20) (w : World) (hE : Env w) (hN : NumsAt w b o qs) (hb : b < w.heap.size) :
    CallsIn Fence.wide 9 Tryz.prog 8 #[.slice (some ⟨b, o, none⟩) qs.length cap] w fun e w' => e = .returned (.tuple #[.string ⟨(rstr (sumN qs qs.length)).toArray⟩, .int .i64 0]) ∧ Q w w' := by
  refine callsIn_of_wp_marks Tryz.func8 rfl trivial ?_ rfl
  simp only [Tryz.ntmps8, List.size_toArray, List.length_cons, List.length_nil, Nat.reduceAdd, Nat.reduceSub, Array.replicate_succ, Array.replicate_zero, List.push_toArray, List.append_toArray, List.nil_append, List.cons_append]
  refine wpIn_wide.2 ?_
  have hlz : (qs.length : Int) ≤ 20 := by omega
  have HC : Hid (∀ k, k < qs.length → ∀ w, Env w → Calls Tryz.prog 22 #[.string ⟨(rstr (qs.getD k 0)).toArray⟩] w fun e w' => e = .returned (.int .i64 0) ∧ Q w w') := Lib.hid (fun k hk w hw => rational_Check_num _ ((getD_bd hq k).rlim (by decide)) w hw)
  have HN := Lib.hid (fun W (hW : Q w W) i hi => qcell hW (hN i hi))
  have hz : decide ((4096 : Int) < qs.length) = false := by rw [decide_eq_false_iff_not]; omega
  have A2 : Boxed ((w.alloc (.cells #[.string ⟨#[]⟩] 22)).alloc (.cells #[.int .i64 0] 29)) w.heap.size 22 (.string ⟨#[]⟩) := (Boxed.new w 22 (.string ⟨#[]⟩)).alloc _
  have A3 : Boxed ((w.alloc (.cells #[.string ⟨#[]⟩] 22)).alloc (.cells #[.int .i64 0] 29)) (w.heap.size + 1) 29 (.int .i64 0) := by
    have := Boxed.new (w.alloc (.cells #[.string ⟨#[]⟩] 22)) 29 (.int .i64 0)
    rw [World.size_alloc] at this; exact this
  obtain ⟨W0, hW0⟩ : ∃ W0, (w.alloc (.cells #[.string ⟨#[]⟩] 22)).alloc (.cells #[.int .i64 0] 29) = W0 := ⟨_, rfl⟩
  have hq0 : Q w W0 := by rw [← hW0]; exact bt
  have hs0 : W0.heap.size = w.heap.size + 2 := by rw [← hW0]; simp
  rw [hW0] at A2 A3
  go_wp2
  clear hW0
  go_loopw [15] (fun i wr => ∃ k : Nat, k ≤ qs.length ∧ i = .int .i64 k ∧ Q W0 wr) (fun i _ => qs.length - (intOf i).toNat)
  case atStart => exact ⟨0, by omega, rfl, Q.refl _⟩
  case round =>
    obtain ⟨k, hk, rfl, hQ⟩ := hrel
    by_cases hlt : k < qs.length
    · have c0 := HN.out wr (Q.trans hq0 hQ) k hlt
      have HCk := Lib.hid (HC.out k hlt wr (hE.ofQ (Q.trans hq0 hQ)))
      generalize rstr (qs.getD k 0) = T at *
      have hk0 : (0 : Int) ≤ k := by omega
      have hkl : (k : Int) < qs.length := by omega
      go_wp2_with fail
      refine HCk.out.mono ?_
      rintro e w2 ⟨rfl, hq2⟩
      have hQ2 := Q.trans hQ hq2
      clear HCk c0
      go_wp2
      go_roundw
      case rel => exact ⟨k + 1, by omega, by go_num, hQ2⟩
      case measure => simp [intOf]; omega
    · obtain rfl : k = qs.length := by omega
      clear hlt hz
      have hqw : Q w wr := Q.trans hq0 hQ
      have A2r := boxed_kc A2 (KC.q hQ)
      have A3r := boxed_kc A3 (KC.q hQ)
      have hsr := hQ.size
      go_wp2_with fail
      refine (rational_sums _ _ _ _).mono ?_
      rintro e w2 ⟨rfl, rfl⟩
      obtain ⟨W2, hW2⟩ : ∃ W2, (wr.alloc (.cells #[.string ⟨#[48]⟩] 22)).alloc (.cells #[.slice (some ⟨b, o, none⟩) qs.length cap] 32) = W2 := ⟨_, rfl⟩
      have hq2 : Q wr W2 := by rw [← hW2]; exact bt
      have hs2 : W2.heap.size = wr.heap.size + 2 := by rw [← hW2]; simp
      have bO : Boxed W2 wr.heap.size 22 (.string ⟨(rstr (sumN qs 0)).toArray⟩) := by
        have := (Boxed.new wr 22 (.string ⟨#[48]⟩)).alloc (.cells #[.slice (some ⟨b, o, none⟩) qs.length cap] 32)
        rw [hW2] at this
        rw [show rstr (sumN qs 0) = [48] from rstr_zero]; exact this
      have bS : Boxed W2 (wr.heap.size + 1) 32 (.slice (some ⟨b, o, none⟩) qs.length cap) := by
        have := Boxed.new (wr.alloc (.cells #[.string ⟨#[48]⟩] 22)) 32 (.slice (some ⟨b, o, none⟩) qs.length cap)
        rw [World.size_alloc, hW2] at this; exact this
      have b2 := boxed_kc A2r (KC.q hq2)
      have b3 := boxed_kc A3r (KC.q hq2)
      rw [World.size_alloc, hW2]
      clear hW2
      have hqW : Q w W2 := Q.trans hqw hq2
      go_wp2_with fail
      refine (wpIn_wide (n := 9)).1 ?_
      refine wpIn_rangeFunc_upP (m := 9) Env (gf := 47) (lb := #[.pointer (some ⟨wr.heap.size + 1, 0, none⟩)]) (by omega) rfl (enters_of Tryz.func47 (by kernel_rfl) rfl)
        (sums_next (wr.heap.size + 1) b o cap qs hq hn W2 8 (by omega) bS.cell (fun i hi => HN.out W2 hqW i hi)) (fun k hk => by
          simp only [List.mem_cons, List.not_mem_nil, or_false] at hk
          rcases hk with rfl | rfl <;> omega) (fun _ => rfl)
        (fun k W => Boxed W wr.heap.size 22 (.string ⟨(rstr (sumN qs k)).toArray⟩) ∧ Boxed W w.heap.size 22 (.string ⟨#[]⟩) ∧ Boxed W (w.heap.size + 1) 29 (.int .i64 0) ∧ Q w W)
        (fun _ _ => False) (fun k W h => hE.ofQ h.2.2.2)
        (fun k W W' h kc hb => ⟨boxed_kc h.1 kc, boxed_kc h.2.1 kc, boxed_kc h.2.2.1 kc, Below.trans h.2.2.2 (hb.mono hqW.size)⟩) (fun _ _ _ h _ _ => h) ⟨bO, b2, b3, hqW⟩
        (fun x a1 W => a1 = { tmps := #[.slice (some ⟨b, o, none⟩) qs.length cap, undef, .pointer (some ⟨w.heap.size, 0, none⟩), .pointer (some ⟨w.heap.size + 1, 0, none⟩), undef, u5, u6, .pointer (some ⟨wr.heap.size, 0, none⟩), .string ⟨(rstr (sumN qs (x.1 + 1))).toArray⟩, .int .i64 0, .slice (some ⟨b, o, none⟩) qs.length cap, .int .i64 (qs.length : Nat), .bool false, .slice (some ⟨b, o, none⟩) qs.length cap, .int .i64 (qs.length : Nat), .int .i64 (qs.length : Nat), .bool false, u17, u18, u19, u20, u21, u22, u23, u24, .slice (some ⟨b, o, none⟩) qs.length cap, .func (.func 47) #[] #[.pointer (some ⟨wr.heap.size + 1, 0, none⟩)], .string ⟨(rstr (sumN qs (x.1 + 1))).toArray⟩, .int .i64 0, undef, undef, undef, undef, undef], defers := [] })
        (fun x a1 W W' h kc => h)
        ?assign ?body ?done ?stop
      case assign =>
        intro l x W K hW hK
        have hk := hK _ W (Q.refl W) rfl
        clear hK
        unfold sumEnc
        gi_wp2
        exact hk
      case stop =>
        rintro D c W _ h _
        exact h.elim
      case body =>
        rintro l k hk a1 W ⟨hO, h2, h3, hQk⟩ rfl
        simp only
        have c0 := hO.cell
        have f0 := hO.frozen
        have bO5 := hO.set (.string ⟨(rstr (sumN qs (k + 1))).toArray⟩)
        have h25 := boxed_far h2 (g := wr.heap.size) (by omega) 0 (.string ⟨(rstr (sumN qs (k + 1))).toArray⟩)
        have h35 := boxed_far h3 (g := wr.heap.size) (by omega) 0 (.string ⟨(rstr (sumN qs (k + 1))).toArray⟩)
        have hQ5 := hQk.setCell (p := ⟨wr.heap.size, 0, none⟩) (by have := hqw.size; omega) (.string ⟨(rstr (sumN qs (k + 1))).toArray⟩)
        have kf : KeepsFrom W2.heap.size W (W.setCell ⟨wr.heap.size, 0, none⟩ (.string ⟨(rstr (sumN qs (k + 1))).toArray⟩)) := (KeepsOthers.setCell _ _ _).from _
        have kb : KeepB [wr.heap.size + 1, b] W (W.setCell ⟨wr.heap.size, 0, none⟩ (.string ⟨(rstr (sumN qs (k + 1))).toArray⟩)) := KeepB.set _ (fun k hk => by
          simp only [List.mem_cons, List.not_mem_nil, or_false] at hk
          rcases hk with rfl | rfl <;> omega) _ _
        gi_wp2
        exact ⟨kf, kb, bO5, h25, h35, hQ5⟩
      case done =>
        rintro D W hD ⟨hO, h2, h3, hQk⟩ hK
        have c0 := hO.cell
        have c2 := h2.cell
        have c3 := h3.cell
        have f2 := h2.frozen
        have f3 := h3.frozen
        have r2 := boxed_far (h2.set (.string ⟨(rstr (sumN qs qs.length)).toArray⟩)) (g := w.heap.size + 1) (by omega) 0 (.int .i64 0)
        have r3 := (boxed_far h3 (g := w.heap.size) (by omega) 0 (.string ⟨(rstr (sumN qs qs.length)).toArray⟩)).set (.int .i64 0)
        have hQe := (hQk.setCell (p := ⟨w.heap.size, 0, none⟩) (by simp) (.string ⟨(rstr (sumN qs qs.length)).toArray⟩)).setCell (p := ⟨w.heap.size + 1, 0, none⟩) (by simp) (.int .i64 0)
        have hK2 := (KeepsOthers.setCell (W.setCell ⟨w.heap.size, 0, none⟩ (.string ⟨(rstr (sumN qs qs.length)).toArray⟩)) ⟨w.heap.size + 1, 0, none⟩ (.int .i64 0)).same D _ ((KeepsOthers.setCell W ⟨w.heap.size, 0, none⟩ (.string ⟨(rstr (sumN qs qs.length)).toArray⟩)).same D _ hK rfl) rfl
        have kc := KC.put (.deferred none) hK2 rfl
        have hDw : w.heap.size ≤ D := by have := hqw.size; omega
        go_wp2
        refine ⟨by simp, .inl ⟨_, _, rfl, run_takeDeferred hK2, ?_⟩⟩
        exact ⟨_, results_two (boxed_kc r2 kc).cell (boxed_kc r3 kc).cell _ rfl _ rfl rfl, rfl, Below.trans hQe (below_put hDw hK2 _)⟩
theorem rational_Sum (b o cap : Nat) (qs : List Rat) (hq : ∀ q ∈ qs, Bd 10 q) (hn : qs.length ≤ 20) (w : World) (hE : Env w) (hN : NumsAt w b o qs) (hb : b < w.heap.size) :
    Calls Tryz.prog 8 #[.slice (some ⟨b, o, none⟩) qs.length cap] w fun e w' => e = .returned (.tuple #[.string ⟨(rstr (sumN qs qs.length)).toArray⟩, .int .i64 0]) ∧ Q w w' :=
  callsIn_wide.1 (sum_in b o cap qs hq hn w hE hN hb)
end Go.Proofs.YtohonlboaddppaaGreatDoor
