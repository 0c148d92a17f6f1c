/-
  The law of tenons: its walk.
-/
import Derived.Test.YtohonlboaddppaaGreatDoorJN
namespace Go.Proofs.YtohonlboaddppaaGreatDoor
open Go.RowKit Go.Shelf Kp
attribute [local go_sem] Oper.semAt_some
def grS (X Y Z : Str) : Bool := decide ((30 : Int) < X.length) || (decide ((30 : Int) < Y.length) || decide ((30 : Int) < Z.length))
def grM (m : Mb) : Bool := grS m.fx m.fy m.fz || grS m.tx m.ty m.tz
theorem grM_short {m : Mb} (h : grM m = false) : m.short := by
  unfold grM grS at h
  simp only [Bool.or_eq_false_iff, decide_eq_false_iff_not] at h
  obtain ⟨⟨h1, h2, h3⟩, h4, h5, h6⟩ := h
  exact ⟨by omega, by omega, by omega, by omega, by omega, by omega⟩
set_option maxRecDepth 100000 in
set_option maxHeartbeats 1000000 in
theorem ref28_GreatSpot (X Y Z : Str) (w : World) :
    Calls Tryz.prog 12 #[.agg #[.string ⟨X.toArray⟩, .string ⟨Y.toArray⟩, .string ⟨Z.toArray⟩]] w fun e w' => e = .returned (.bool (grS X Y Z)) ∧ Q w w' := by
  unfold grS
  cases h1 : decide ((30 : Int) < X.length) <;> cases h2 : decide ((30 : Int) < Y.length) <;> cases h3 : decide ((30 : Int) < Z.length)
  all_goals
    go_enter Tryz.func12, Tryz.ntmps12
    go_wp2
    go_ret
    exact ⟨rfl, bt⟩
set_option maxRecDepth 100000 in
set_option maxHeartbeats 1000000 in
theorem ref28_Great (m : Mb) (b c : Nat) (t : TypeId) (w : World) (hb : Blk w b (mbC m) t) :
    Calls Tryz.prog 4 #[.slice (some ⟨b, 0, none⟩) 1 c] w fun e w' => e = .returned (.bool (grM m)) ∧ Q w w' := by
  unfold grM
  obtain ⟨k, fc, ot, X, Y, Z, X', Y', Z', W, D⟩ := m
  unfold mbC at hb
  simp only at hb ⊢
  have H1 := Lib.hid (fun w => ref28_GreatSpot X Y Z w)
  have H2 := Lib.hid (fun w => ref28_GreatSpot X' Y' Z' w)
  cases h1 : grS X Y Z <;> cases h2 : grS X' Y' Z'
  all_goals
    rw [h1] at H1
    rw [h2] at H2
    have hQ0 := Q.refl w
    replace m0 := hb.cell 0
    replace m1 := hb.cell 1
    replace m2 := hb.cell 2
    replace m3 := hb.cell 3
    replace m4 := hb.cell 4
    replace m5 := hb.cell 5
    replace m6 := hb.cell 6
    replace m7 := hb.cell 7
    replace m8 := hb.cell 8
    replace m9 := hb.cell 9
    replace m10 := hb.cell 10
    simp only [List.getElem?_cons_zero, List.getElem?_cons_succ] at m0 m1 m2 m3 m4 m5 m6 m7 m8 m9 m10
    replace lhb := hb.lt
    go_enter Tryz.func4, Tryz.ntmps4
    go_wp2
    refine wp_loop_rounds 2 ?_
    rw [rounds_succ]
  · skip
    have hQ0 := Q.refl w
    replace m0 := hb.cell 0
    replace m1 := hb.cell 1
    replace m2 := hb.cell 2
    replace m3 := hb.cell 3
    replace m4 := hb.cell 4
    replace m5 := hb.cell 5
    replace m6 := hb.cell 6
    replace m7 := hb.cell 7
    replace m8 := hb.cell 8
    replace m9 := hb.cell 9
    replace m10 := hb.cell 10
    simp only [List.getElem?_cons_zero, List.getElem?_cons_succ] at m0 m1 m2 m3 m4 m5 m6 m7 m8 m9 m10
    replace lhb := hb.lt
    go_wp2_with fail
    refine (H1.out _).mono ?_
    rintro e w1 ⟨rfl, hq1⟩
    have hs1 : Q w w1 := Q.trans bt hq1
    have hQ1 : Q w w1 := Q.trans hQ0 hs1
    replace hb := hb.keep hs1 hb.lt
    replace m0 := hb.cell 0
    replace m1 := hb.cell 1
    replace m2 := hb.cell 2
    replace m3 := hb.cell 3
    replace m4 := hb.cell 4
    replace m5 := hb.cell 5
    replace m6 := hb.cell 6
    replace m7 := hb.cell 7
    replace m8 := hb.cell 8
    replace m9 := hb.cell 9
    replace m10 := hb.cell 10
    simp only [List.getElem?_cons_zero, List.getElem?_cons_succ] at m0 m1 m2 m3 m4 m5 m6 m7 m8 m9 m10
    replace lhb := hb.lt
    go_wp2_with fail
    refine (H2.out _).mono ?_
    rintro e w2 ⟨rfl, hq2⟩
    have hs2 : Q w1 w2 := Q.trans bt hq2
    have hQ2 : Q w w2 := Q.trans hQ1 hs2
    replace hb := hb.keep hs2 hb.lt
    replace m0 := hb.cell 0
    replace m1 := hb.cell 1
    replace m2 := hb.cell 2
    replace m3 := hb.cell 3
    replace m4 := hb.cell 4
    replace m5 := hb.cell 5
    replace m6 := hb.cell 6
    replace m7 := hb.cell 7
    replace m8 := hb.cell 8
    replace m9 := hb.cell 9
    replace m10 := hb.cell 10
    simp only [List.getElem?_cons_zero, List.getElem?_cons_succ] at m0 m1 m2 m3 m4 m5 m6 m7 m8 m9 m10
    replace lhb := hb.lt
    go_wp2
    rw [rounds_succ]
    go_wp2
    go_ret
    exact ⟨rfl, bt⟩
  · skip
    have hQ0 := Q.refl w
    replace m0 := hb.cell 0
    replace m1 := hb.cell 1
    replace m2 := hb.cell 2
    replace m3 := hb.cell 3
    replace m4 := hb.cell 4
    replace m5 := hb.cell 5
    replace m6 := hb.cell 6
    replace m7 := hb.cell 7
    replace m8 := hb.cell 8
    replace m9 := hb.cell 9
    replace m10 := hb.cell 10
    simp only [List.getElem?_cons_zero, List.getElem?_cons_succ] at m0 m1 m2 m3 m4 m5 m6 m7 m8 m9 m10
    replace lhb := hb.lt
    go_wp2_with fail
    refine (H1.out _).mono ?_
    rintro e w1 ⟨rfl, hq1⟩
    have hs1 : Q w w1 := Q.trans bt hq1
    have hQ1 : Q w w1 := Q.trans hQ0 hs1
    replace hb := hb.keep hs1 hb.lt
    replace m0 := hb.cell 0
    replace m1 := hb.cell 1
    replace m2 := hb.cell 2
    replace m3 := hb.cell 3
    replace m4 := hb.cell 4
    replace m5 := hb.cell 5
    replace m6 := hb.cell 6
    replace m7 := hb.cell 7
    replace m8 := hb.cell 8
    replace m9 := hb.cell 9
    replace m10 := hb.cell 10
    simp only [List.getElem?_cons_zero, List.getElem?_cons_succ] at m0 m1 m2 m3 m4 m5 m6 m7 m8 m9 m10
    replace lhb := hb.lt
    go_wp2_with fail
    refine (H2.out _).mono ?_
    rintro e w2 ⟨rfl, hq2⟩
    have hs2 : Q w1 w2 := Q.trans bt hq2
    have hQ2 : Q w w2 := Q.trans hQ1 hs2
    replace hb := hb.keep hs2 hb.lt
    replace m0 := hb.cell 0
    replace m1 := hb.cell 1
    replace m2 := hb.cell 2
    replace m3 := hb.cell 3
    replace m4 := hb.cell 4
    replace m5 := hb.cell 5
    replace m6 := hb.cell 6
    replace m7 := hb.cell 7
    replace m8 := hb.cell 8
    replace m9 := hb.cell 9
    replace m10 := hb.cell 10
    simp only [List.getElem?_cons_zero, List.getElem?_cons_succ] at m0 m1 m2 m3 m4 m5 m6 m7 m8 m9 m10
    replace lhb := hb.lt
    go_wp2
    go_ret
    exact ⟨rfl, bt⟩
  · skip
    have hQ0 := Q.refl w
    replace m0 := hb.cell 0
    replace m1 := hb.cell 1
    replace m2 := hb.cell 2
    replace m3 := hb.cell 3
    replace m4 := hb.cell 4
    replace m5 := hb.cell 5
    replace m6 := hb.cell 6
    replace m7 := hb.cell 7
    replace m8 := hb.cell 8
    replace m9 := hb.cell 9
    replace m10 := hb.cell 10
    simp only [List.getElem?_cons_zero, List.getElem?_cons_succ] at m0 m1 m2 m3 m4 m5 m6 m7 m8 m9 m10
    replace lhb := hb.lt
    go_wp2_with fail
    refine (H1.out _).mono ?_
    rintro e w1 ⟨rfl, hq1⟩
    have hs1 : Q w w1 := Q.trans bt hq1
    have hQ1 : Q w w1 := Q.trans hQ0 hs1
    replace hb := hb.keep hs1 hb.lt
    replace m0 := hb.cell 0
    replace m1 := hb.cell 1
    replace m2 := hb.cell 2
    replace m3 := hb.cell 3
    replace m4 := hb.cell 4
    replace m5 := hb.cell 5
    replace m6 := hb.cell 6
    replace m7 := hb.cell 7
    replace m8 := hb.cell 8
    replace m9 := hb.cell 9
    replace m10 := hb.cell 10
    simp only [List.getElem?_cons_zero, List.getElem?_cons_succ] at m0 m1 m2 m3 m4 m5 m6 m7 m8 m9 m10
    replace lhb := hb.lt
    go_wp2
    go_ret
    exact ⟨rfl, bt⟩
  · skip
    have hQ0 := Q.refl w
    replace m0 := hb.cell 0
    replace m1 := hb.cell 1
    replace m2 := hb.cell 2
    replace m3 := hb.cell 3
    replace m4 := hb.cell 4
    replace m5 := hb.cell 5
    replace m6 := hb.cell 6
    replace m7 := hb.cell 7
    replace m8 := hb.cell 8
    replace m9 := hb.cell 9
    replace m10 := hb.cell 10
    simp only [List.getElem?_cons_zero, List.getElem?_cons_succ] at m0 m1 m2 m3 m4 m5 m6 m7 m8 m9 m10
    replace lhb := hb.lt
    go_wp2_with fail
    refine (H1.out _).mono ?_
    rintro e w1 ⟨rfl, hq1⟩
    have hs1 : Q w w1 := Q.trans bt hq1
    have hQ1 : Q w w1 := Q.trans hQ0 hs1
    replace hb := hb.keep hs1 hb.lt
    replace m0 := hb.cell 0
    replace m1 := hb.cell 1
    replace m2 := hb.cell 2
    replace m3 := hb.cell 3
    replace m4 := hb.cell 4
    replace m5 := hb.cell 5
    replace m6 := hb.cell 6
    replace m7 := hb.cell 7
    replace m8 := hb.cell 8
    replace m9 := hb.cell 9
    replace m10 := hb.cell 10
    simp only [List.getElem?_cons_zero, List.getElem?_cons_succ] at m0 m1 m2 m3 m4 m5 m6 m7 m8 m9 m10
    replace lhb := hb.lt
    go_wp2
    go_ret
    exact ⟨rfl, bt⟩
theorem law_number (n : Int) (hn : n.natAbs < 100000000000000000) (w : World) (hE : Env w) :
    Calls Tryz.prog 9 #[.int .i64 n] w fun e w' => e = .returned (.string ⟨(rstr (n : Rat)).toArray⟩) ∧ Q w w' := by
  have HO := Lib.hid (fun w hw => rational_Of_short n 1 (by decide) hn (by decide) w hw)
  rw [divInt_one] at HO
  generalize rstr (n : Rat) = S at *
  go_enter Tryz.func9, Tryz.ntmps9
  have hQ0 := Q.refl w
  go_wp2_with fail
  refine (HO.out _ (hE.ofQ bt)).mono ?_
  rintro e w1 ⟨rfl, hq1⟩
  have hs1 : Q w w1 := Q.trans bt hq1
  have hQ1 : Q w w1 := Q.trans hQ0 hs1
  go_wp2
  go_ret
  exact ⟨rfl, bt⟩
theorem sum_three (s t : Rat) (hs : Bd 10 s) (ht : Bd 10 t) (b c : Nat) (ty : TypeId) (w : World) (hE : Env w) (hb : Blk w b [.string ⟨(rstr s).toArray⟩, .string ⟨(rstr t).toArray⟩, .string ⟨(rstr s).toArray⟩] ty) :
    Calls Tryz.prog 8 #[.slice (some ⟨b, 0, none⟩) 3 c] w fun e w' => e = .returned (.tuple #[.string ⟨(rstr (0 + s + t + s)).toArray⟩, .int .i64 0]) ∧ Q w w' := by
  have hq : ∀ q ∈ [s, t, s], Bd 10 q := by
    intro q hq
    simp only [List.mem_cons, List.not_mem_nil, or_false] at hq
    rcases hq with rfl | rfl | rfl <;> assumption
  exact rational_Sum b 0 c [s, t, s] hq (by simp) w hE (fun i hi => by
    simp only [List.length_cons, List.length_nil] at hi
    have : i = 0 ∨ i = 1 ∨ i = 2 := by omega
    rcases this with rfl | rfl | rfl
    · exact hb.cell 0
    · exact hb.cell 1
    · exact hb.cell 2) hb.lt
theorem infoNumL : (Tryz.prog.info? 22).map (fun i => (i.zero, i.size, i.bytes)) = some (some (.string ⟨#[]⟩), 1, 16) := by kernel_rfl
theorem ne_zero_str {q : Rat} (h : q ≠ 0) : (([48] : Str) == rstr q) = false := by
  rw [beq_eq_false_iff_ne]
  intro e
  exact h (rstr_inj (by rw [← e, rstr_zero]))
set_option maxRecDepth 100000 in
set_option maxHeartbeats 1000000 in
theorem contains_zero (p q : Rat) (hp : p ≠ 0) (hq : q ≠ 0) (b c : Nat) (w : World) (h0 : w.cell? ⟨b, 0, none⟩ = some (.string ⟨(rstr p).toArray⟩)) (h1 : w.cell? ⟨b, 1, none⟩ = some (.string ⟨(rstr q).toArray⟩)) :
    Calls Tryz.prog 11 #[.slice (some ⟨b, 0, none⟩) 2 c, .string ⟨#[48]⟩] w fun e w' => e = .returned (.bool false) ∧ Q w w' := by
  have e0 := ne_zero_str hp
  have e1 := ne_zero_str hq
  generalize rstr p = S at *
  generalize rstr q = T at *
  have HI : Calls Tryz.prog 29 #[.slice (some ⟨b, 0, none⟩) 2 c, .string ⟨#[48]⟩] w fun e w' => e = .returned (.int .i64 (-1)) ∧ Q w w' := by
    go_enter Tryz.func29, Tryz.ntmps29
    go_wp2
    refine wp_loop_rounds 3 ?_
    rw [rounds_succ]
    go_wp2
    rw [rounds_succ]
    go_wp2
    rw [rounds_succ]
    go_wp2
    go_ret
    exact ⟨rfl, bt⟩
  have HI2 := Lib.hid HI
  clear HI
  go_enter Tryz.func11, Tryz.ntmps11
  go_wp2_with fail
  refine HI2.out.mono ?_
  rintro e w1 ⟨rfl, hq1⟩
  go_wp2
  go_ret
  exact ⟨rfl, hq1⟩
set_option maxRecDepth 100000 in
set_option maxHeartbeats 4000000 in
theorem tenons_law (m : Mb) (w : World) (hE : Env w) :
    Calls Tryz.prog 3 #[.agg (mbC m).toArray] w fun e w' => e = .returned (.bool true) ∧ Q w w' := by
  have HAw := Lib.hid (fun w hw => awake35 w hw)
  obtain ⟨W0, hW0⟩ : ∃ W0, (w.alloc (.cells (mbC m).toArray 26)).alloc (.cells (mbC m).toArray 26) = W0 := ⟨_, rfl⟩
  have hq0 : Q w W0 := by rw [← hW0]; exact bt
  have hs0 : W0.heap.size = w.heap.size + 2 := by rw [← hW0]; simp
  have BM : Blk W0 w.heap.size (mbC m) 26 := by rw [← hW0]; exact (Blk.new w _ _).alloc _
  have BL : Blk W0 (w.heap.size + 1) (mbC m) 26 := by rw [← hW0]; exact Blk.new1 w _ _ _
  have hEw := hE.ofQ hq0
  have HG := Lib.hid (ref28_Great m (w.heap.size + 1) 1 26 W0 BL)
  cases hg : grM m
  case true =>
    rw [hg] at HG
    clear hg BL
    unfold mbC at *
    obtain ⟨ki, fa, ot, fx, fy, fz, tx, ty, tz, wi, de⟩ := m
    simp only at *
    have hQ0 := Q.refl W0
    replace m0 := BM.cell 0
    replace m1 := BM.cell 1
    replace m2 := BM.cell 2
    replace m3 := BM.cell 3
    replace m4 := BM.cell 4
    replace m5 := BM.cell 5
    replace m6 := BM.cell 6
    replace m7 := BM.cell 7
    replace m8 := BM.cell 8
    replace m9 := BM.cell 9
    replace m10 := BM.cell 10
    simp only [List.getElem?_cons_zero, List.getElem?_cons_succ] at m0 m1 m2 m3 m4 m5 m6 m7 m8 m9 m10
    replace lBM := BM.lt
    go_enter Tryz.func3, Tryz.ntmps3
    go_wp2_with fail
    clear hW0
    refine HG.out.mono ?_
    rintro e w1 ⟨rfl, hq1⟩
    go_wp2_with fail
    refine (HAw.out _ (hEw.ofQ hq1)).mono ?_
    rintro e w2 ⟨rfl, hq2⟩
    have hQe := Q.trans hq0 (Q.trans hq1 hq2)
    go_wp2
    go_ret
    exact ⟨rfl, hQe⟩
  case false =>
    have hs := grM_short hg
    rw [hg] at HG
    clear hg BL
    have HH := Lib.hid (fun w hw => hip_Check_any m hs w hw)
    by_cases hk : hipE m = 0
    · rw [hk] at HH
      have okm := hipE_ok hk
      have HT1 := Lib.hid (fun w hw => joint_Tenon m hs hk true w hw)
      have HT2 := Lib.hid (fun w hw => joint_Tenon m hs hk false w hw)
      have w1 := okm.w1
      have w2 := okm.w2
      have b1 := tenT_bd w1 w2 true
      have b2 := tenT_bd w1 w2 false
      have HSm := fun t => Lib.hid (fun b c ty W hW hB => sum_three (tenS m.wid t) (tenT m.wid t) ((tenS_bd w1 w2 t).mono (by decide)) ((tenT_bd w1 w2 t).mono (by decide)) b c ty W hW hB)
      have HS1 := HSm true
      have HS2 := HSm false
      rw [ten_sum] at HS1 HS2
      have HNu := Lib.hid (fun w hw => law_number m.wid (by omega) w hw)
      have HCp := Lib.hid (fun w hw => rational_Compare (tenT m.wid true) (tenT m.wid false) (b1.rlim (by decide)) (b2.rlim (by decide)) (lim_bd (cross_lt b1 b2) (by decide)) (lim_bd (cross_lt b2 b1) (by decide)) w hw)
      have hgt : Lib.compareInt ((tenT m.wid true).num * (tenT m.wid false).den) ((tenT m.wid false).num * (tenT m.wid true).den) = 1 := ordF_gt (ten_gt (by omega))
      rw [hgt] at HCp
      have HCo := Lib.hid (fun b c w h0 h1 => contains_zero (tenT m.wid true) (tenT m.wid false) (ten_pos (by omega) true) (ten_pos (by omega) false) b c w h0 h1)
      obtain ⟨i0, hi, hz0, hz1, hz2⟩ := info_of infoNumL
      clear HSm hgt b1 b2 okm hs hk
      unfold mbC at *
      obtain ⟨ki, fa, ot, fx, fy, fz, tx, ty, tz, wi, de⟩ := m
      simp only at *
      generalize rstr (tenT wi true) = T1 at *
      generalize rstr (tenS wi true) = S1 at *
      generalize rstr (tenT wi false) = T2 at *
      generalize rstr (tenS wi false) = S2 at *
      generalize rstr (wi : Rat) = NW at *
      have hQ0 := Q.refl W0
      replace m0 := BM.cell 0
      replace m1 := BM.cell 1
      replace m2 := BM.cell 2
      replace m3 := BM.cell 3
      replace m4 := BM.cell 4
      replace m5 := BM.cell 5
      replace m6 := BM.cell 6
      replace m7 := BM.cell 7
      replace m8 := BM.cell 8
      replace m9 := BM.cell 9
      replace m10 := BM.cell 10
      simp only [List.getElem?_cons_zero, List.getElem?_cons_succ] at m0 m1 m2 m3 m4 m5 m6 m7 m8 m9 m10
      replace lBM := BM.lt
      go_enter Tryz.func3, Tryz.ntmps3
      go_wp2_with fail
      clear hW0
      refine HG.out.mono ?_
      rintro e y1 ⟨rfl, hq1⟩
      replace BM := BM.keep hq1 BM.lt
      replace m0 := BM.cell 0
      replace m1 := BM.cell 1
      replace m2 := BM.cell 2
      replace m3 := BM.cell 3
      replace m4 := BM.cell 4
      replace m5 := BM.cell 5
      replace m6 := BM.cell 6
      replace m7 := BM.cell 7
      replace m8 := BM.cell 8
      replace m9 := BM.cell 9
      replace m10 := BM.cell 10
      simp only [List.getElem?_cons_zero, List.getElem?_cons_succ] at m0 m1 m2 m3 m4 m5 m6 m7 m8 m9 m10
      replace lBM := BM.lt
      go_wp2_with fail
      refine (HH.out _ (hEw.ofQ hq1)).mono ?_
      rintro e y2 ⟨rfl, hq2⟩
      replace BM := BM.keep hq2 BM.lt
      have hw2 : Q w y2 := Q.trans hq0 (Q.trans hq1 hq2)
      obtain ⟨W3, hW3⟩ : ∃ W3, y2.alloc (.cells #[.bool true, .bool false] 4) = W3 := ⟨_, rfl⟩
      have L : Blk W3 y2.heap.size [.bool true, .bool false] 4 := by rw [← hW3]; exact Blk.new y2 _ _
      have hqW : Q y2 W3 := by rw [← hW3]; exact bt
      have hs3 : W3.heap.size = y2.heap.size + 1 := by rw [← hW3]; simp
      replace BM := BM.keep hqW BM.lt
      have hw3 : Q w W3 := Q.trans hw2 hqW
      have hE3 := hE.ofQ hw3
      have hwz := hw3.size
      clear HG HH hEw hs3
      go_wp2
      clear hW3
      refine wp_loop_rounds 3 ?_
      rw [rounds_succ]
      have BM0 := BM
      have L0 := L
      clear hE
      have hE := hE3
      have hQ0 := Q.refl W3
      replace m0 := BM.cell 0
      replace m1 := BM.cell 1
      replace m2 := BM.cell 2
      replace m3 := BM.cell 3
      replace m4 := BM.cell 4
      replace m5 := BM.cell 5
      replace m6 := BM.cell 6
      replace m7 := BM.cell 7
      replace m8 := BM.cell 8
      replace m9 := BM.cell 9
      replace m10 := BM.cell 10
      simp only [List.getElem?_cons_zero, List.getElem?_cons_succ] at m0 m1 m2 m3 m4 m5 m6 m7 m8 m9 m10
      replace lBM := BM.lt
      replace l0 := L.cell 0
      replace l1 := L.cell 1
      simp only [List.getElem?_cons_zero, List.getElem?_cons_succ] at l0 l1
      replace lL := L.lt
      go_wp2_with fail
      refine (HT1.out _ (hE.ofQ bt)).mono ?_
      rintro e V1 ⟨rfl, hq1⟩
      have hs1 : Q W3 V1 := Q.trans bt hq1
      have hQ1 : Q W3 V1 := Q.trans hQ0 hs1
      replace BM := BM.keep hs1 BM.lt
      replace m0 := BM.cell 0
      replace m1 := BM.cell 1
      replace m2 := BM.cell 2
      replace m3 := BM.cell 3
      replace m4 := BM.cell 4
      replace m5 := BM.cell 5
      replace m6 := BM.cell 6
      replace m7 := BM.cell 7
      replace m8 := BM.cell 8
      replace m9 := BM.cell 9
      replace m10 := BM.cell 10
      simp only [List.getElem?_cons_zero, List.getElem?_cons_succ] at m0 m1 m2 m3 m4 m5 m6 m7 m8 m9 m10
      replace lBM := BM.lt
      replace L := L.keep hs1 L.lt
      replace l0 := L.cell 0
      replace l1 := L.cell 1
      simp only [List.getElem?_cons_zero, List.getElem?_cons_succ] at l0 l1
      replace lL := L.lt
      go_wp2_with fail
      refine (HS1.out V1.heap.size 3 22 _ (hE.ofQ bt) (Blk.new V1 _ _)).mono ?_
      rintro e V2 ⟨rfl, hq2⟩
      have hs2 : Q V1 V2 := Q.trans bt hq2
      have hQ2 : Q W3 V2 := Q.trans hQ1 hs2
      replace BM := BM.keep hs2 BM.lt
      replace m0 := BM.cell 0
      replace m1 := BM.cell 1
      replace m2 := BM.cell 2
      replace m3 := BM.cell 3
      replace m4 := BM.cell 4
      replace m5 := BM.cell 5
      replace m6 := BM.cell 6
      replace m7 := BM.cell 7
      replace m8 := BM.cell 8
      replace m9 := BM.cell 9
      replace m10 := BM.cell 10
      simp only [List.getElem?_cons_zero, List.getElem?_cons_succ] at m0 m1 m2 m3 m4 m5 m6 m7 m8 m9 m10
      replace lBM := BM.lt
      replace L := L.keep hs2 L.lt
      replace l0 := L.cell 0
      replace l1 := L.cell 1
      simp only [List.getElem?_cons_zero, List.getElem?_cons_succ] at l0 l1
      replace lL := L.lt
      go_wp2_with fail
      refine (HNu.out _ (hE.ofQ bt)).mono ?_
      rintro e V3 ⟨rfl, hq3⟩
      have hs3 : Q V2 V3 := Q.trans bt hq3
      have hQ3 : Q W3 V3 := Q.trans hQ2 hs3
      replace BM := BM.keep hs3 BM.lt
      replace m0 := BM.cell 0
      replace m1 := BM.cell 1
      replace m2 := BM.cell 2
      replace m3 := BM.cell 3
      replace m4 := BM.cell 4
      replace m5 := BM.cell 5
      replace m6 := BM.cell 6
      replace m7 := BM.cell 7
      replace m8 := BM.cell 8
      replace m9 := BM.cell 9
      replace m10 := BM.cell 10
      simp only [List.getElem?_cons_zero, List.getElem?_cons_succ] at m0 m1 m2 m3 m4 m5 m6 m7 m8 m9 m10
      replace lBM := BM.lt
      replace L := L.keep hs3 L.lt
      replace l0 := L.cell 0
      replace l1 := L.cell 1
      simp only [List.getElem?_cons_zero, List.getElem?_cons_succ] at l0 l1
      replace lL := L.lt
      have hown0 := World.ownsRow_nil (V3.alloc (.cells #[.string ⟨T1.toArray⟩] 22)) W3.heap.size 22 1
      have hsz3 : W3.heap.size ≤ (V3.alloc (.cells #[.string ⟨T1.toArray⟩] 22)).heap.size := by have := hQ3.size; simp; omega
      go_wp2_with (at_builtin; refine wpList_append_own_at _ rfl (.tmp 56) (.tmp 58) 32 rfl W3.heap.size 22 i0 _ 1 16 Tryz.underlying32 hi hz0 hz1 hz2 rfl (by decide) (.slice none 0 0) 0 [] rfl hown0 ⟨V3.heap.size, 0, none⟩ 1 1 [.string ⟨T1.toArray⟩] rfl rfl (cell_one_new _ _ _) (by simp [Value.oneCell']) (by unfold maxLen; omega) (by omega) hsz3 ?_)
      intro va v4 howna hgrowa _ _
      obtain ⟨ga, cpa, hva⟩ := row_pos howna (by decide)
      subst hva
      replace howna : v4.ownsRow W3.heap.size 22 1 (.slice (some ⟨ga, 0, none⟩) 1 cpa) 1 [.string ⟨T1.toArray⟩] := howna
      have hBa : Q W3 v4 := (hQ3.alloc (by have := hQ3.size; omega) _).grown hgrowa hsz3 (fun j hj => (hown0.lt j hj).1)
      clear BM L m0 m1 m2 m3 m4 m5 m6 m7 m8 m9 m10 l0 l1 lBM lL hown0 HT1 HS1
      replace BM0 := BM0.keep hBa BM0.lt
      replace L0 := L0.keep hBa L0.lt
      have hE4 := hE3.ofQ hBa
      have BM := BM0
      have L := L0
      clear hE
      have hE := hE4
      have hsz4 := hBa.size
      have lBM := BM.lt
      go_wp2
      rw [rounds_succ]
      have hQ0 := Q.refl v4
      replace m0 := BM.cell 0
      replace m1 := BM.cell 1
      replace m2 := BM.cell 2
      replace m3 := BM.cell 3
      replace m4 := BM.cell 4
      replace m5 := BM.cell 5
      replace m6 := BM.cell 6
      replace m7 := BM.cell 7
      replace m8 := BM.cell 8
      replace m9 := BM.cell 9
      replace m10 := BM.cell 10
      simp only [List.getElem?_cons_zero, List.getElem?_cons_succ] at m0 m1 m2 m3 m4 m5 m6 m7 m8 m9 m10
      replace lBM := BM.lt
      replace l0 := L.cell 0
      replace l1 := L.cell 1
      simp only [List.getElem?_cons_zero, List.getElem?_cons_succ] at l0 l1
      replace lL := L.lt
      go_wp2_with fail
      refine (HT2.out _ (hE.ofQ bt)).mono ?_
      rintro e U1 ⟨rfl, hq1⟩
      have hs1 : Q v4 U1 := Q.trans bt hq1
      have hQ1 : Q v4 U1 := Q.trans hQ0 hs1
      replace howna := ownsRow_keep howna hs1
      replace BM := BM.keep hs1 BM.lt
      replace m0 := BM.cell 0
      replace m1 := BM.cell 1
      replace m2 := BM.cell 2
      replace m3 := BM.cell 3
      replace m4 := BM.cell 4
      replace m5 := BM.cell 5
      replace m6 := BM.cell 6
      replace m7 := BM.cell 7
      replace m8 := BM.cell 8
      replace m9 := BM.cell 9
      replace m10 := BM.cell 10
      simp only [List.getElem?_cons_zero, List.getElem?_cons_succ] at m0 m1 m2 m3 m4 m5 m6 m7 m8 m9 m10
      replace lBM := BM.lt
      replace L := L.keep hs1 L.lt
      replace l0 := L.cell 0
      replace l1 := L.cell 1
      simp only [List.getElem?_cons_zero, List.getElem?_cons_succ] at l0 l1
      replace lL := L.lt
      go_wp2_with fail
      refine (HS2.out U1.heap.size 3 22 _ (hE.ofQ bt) (Blk.new U1 _ _)).mono ?_
      rintro e U2 ⟨rfl, hq2⟩
      have hs2 : Q U1 U2 := Q.trans bt hq2
      have hQ2 : Q v4 U2 := Q.trans hQ1 hs2
      replace howna := ownsRow_keep howna hs2
      replace BM := BM.keep hs2 BM.lt
      replace m0 := BM.cell 0
      replace m1 := BM.cell 1
      replace m2 := BM.cell 2
      replace m3 := BM.cell 3
      replace m4 := BM.cell 4
      replace m5 := BM.cell 5
      replace m6 := BM.cell 6
      replace m7 := BM.cell 7
      replace m8 := BM.cell 8
      replace m9 := BM.cell 9
      replace m10 := BM.cell 10
      simp only [List.getElem?_cons_zero, List.getElem?_cons_succ] at m0 m1 m2 m3 m4 m5 m6 m7 m8 m9 m10
      replace lBM := BM.lt
      replace L := L.keep hs2 L.lt
      replace l0 := L.cell 0
      replace l1 := L.cell 1
      simp only [List.getElem?_cons_zero, List.getElem?_cons_succ] at l0 l1
      replace lL := L.lt
      go_wp2_with fail
      refine (HNu.out _ (hE.ofQ bt)).mono ?_
      rintro e U3 ⟨rfl, hq3⟩
      have hs3 : Q U2 U3 := Q.trans bt hq3
      have hQ3 : Q v4 U3 := Q.trans hQ2 hs3
      replace howna := ownsRow_keep howna hs3
      replace BM := BM.keep hs3 BM.lt
      replace m0 := BM.cell 0
      replace m1 := BM.cell 1
      replace m2 := BM.cell 2
      replace m3 := BM.cell 3
      replace m4 := BM.cell 4
      replace m5 := BM.cell 5
      replace m6 := BM.cell 6
      replace m7 := BM.cell 7
      replace m8 := BM.cell 8
      replace m9 := BM.cell 9
      replace m10 := BM.cell 10
      simp only [List.getElem?_cons_zero, List.getElem?_cons_succ] at m0 m1 m2 m3 m4 m5 m6 m7 m8 m9 m10
      replace lBM := BM.lt
      replace L := L.keep hs3 L.lt
      replace l0 := L.cell 0
      replace l1 := L.cell 1
      simp only [List.getElem?_cons_zero, List.getElem?_cons_succ] at l0 l1
      replace lL := L.lt
      have hqn : Q U3 (U3.alloc (.cells #[.string ⟨T2.toArray⟩] 22)) := (Below.refl _ U3).alloc (Nat.le_refl _) _
      have hownb := ownsRow_keep howna hqn
      have hszb : W3.heap.size ≤ (U3.alloc (.cells #[.string ⟨T2.toArray⟩] 22)).heap.size := Nat.le_trans hsz4 (Q.trans hQ3 hqn).size
      go_wp2_with (at_builtin; refine wpList_append_own_at _ rfl (.tmp 56) (.tmp 58) 32 rfl W3.heap.size 22 i0 _ 1 16 Tryz.underlying32 hi hz0 hz1 hz2 rfl (by decide) (.slice (some ⟨ga, 0, none⟩) 1 cpa) 1 [.string ⟨T1.toArray⟩] rfl hownb ⟨U3.heap.size, 0, none⟩ 1 1 [.string ⟨T2.toArray⟩] rfl rfl (cell_one_new _ _ _) (by simp [Value.oneCell']) (by unfold maxLen; omega) (by omega) hszb ?_)
      intro vb v6 hownc hgrowb _ _
      have hBb : Below W3.heap.size W3 v6 := Below.trans hBa (((Q.trans hQ3 hqn).mono hsz4).grown hgrowb hszb (fun j hj => (hownb.lt j hj).1))
      have hE6 := hE3.ofQ hBb
      obtain ⟨g, cp, rfl⟩ := row_pos hownc (by decide)
      have c0 := hownc.cells rfl 0 _ rfl
      have c1 := hownc.cells rfl 1 _ rfl
      rw [Addr.add_lit] at c0 c1
      clear BM L m0 m1 m2 m3 m4 m5 m6 m7 m8 m9 m10 l0 l1 lL howna hownb hownc hgrowb HT2 HS2 HNu
      have hEd : Env v6.drew := hE6.ofQ (Below.drew (Q.refl v6))
      go_wp2
      rw [rounds_succ]
      go_wp2_with fail
      refine wp_steadily 12 rfl (by kernel_rfl) rfl ?_
      refine svp 0 ?_
      refine svp 1 ?_
      refine svq 2 rfl (by intro w' hq; have hc0 := qcell hq c0; go_simp; try with_reducible rfl) ?_
      refine svp 3 ?_
      refine svp 4 ?_
      refine svq 5 rfl (by intro w' hq; have hc0 := qcell hq c1; go_simp; try with_reducible rfl) ?_
      refine steadily_call (i := 6) (v := _) rfl rfl (by kernel_rfl) (by kernel_rfl) (fun _ _ _ h => h) (by rfl) ?_ (fun w' hq => HCp.out w' (hEd.ofQ hq)) ?_
      · (intro w' hq; go_simp; try with_reducible rfl)
      simp only [Act.put, List.setIfInBounds_toArray, List.set_cons_zero, List.set_cons_succ]
      refine svp 7 ?_
      refine svp 8 ?_
      refine svp 9 ?_
      refine svp 10 ?_
      refine svp 11 ?_
      refine steadily_done (by kernel_rfl) (fun v7 hq7 => ?_)
      simp only [List.drop_succ_cons, List.drop_nil]
      have hqd : Q v6 v7 := Q.trans (Below.drew (Q.refl v6)) hq7
      have d0 := qcell hqd c0
      have d1 := qcell hqd c1
      clear c0 c1 hq7 HCp hEd
      go_wp2_with fail
      refine (HCo.out g cp _ d0 d1).mono ?_
      rintro e v8 ⟨rfl, hq8⟩
      have hq68 := Q.trans hqd hq8
      go_wp2_with fail
      refine (HAw.out _ (hE6.ofQ hq68)).mono ?_
      rintro e v9 ⟨rfl, hq9⟩
      have hQe : Q w v9 := Q.trans hw3 (Below.trans hBb ((Q.trans hq68 hq9).mono hBb.size))
      go_wp2
      go_ret
      exact ⟨rfl, hQe⟩
    · obtain ⟨c, hc⟩ : ∃ c, hipE m = c := ⟨_, rfl⟩
      rw [hc] at HH hk
      have hcz : (c == 0) = false := by rw [beq_eq_false_iff_ne]; exact hk
      clear hs hc
      unfold mbC at *
      obtain ⟨ki, fa, ot, fx, fy, fz, tx, ty, tz, wi, de⟩ := m
      simp only at *
      have hQ0 := Q.refl W0
      replace m0 := BM.cell 0
      replace m1 := BM.cell 1
      replace m2 := BM.cell 2
      replace m3 := BM.cell 3
      replace m4 := BM.cell 4
      replace m5 := BM.cell 5
      replace m6 := BM.cell 6
      replace m7 := BM.cell 7
      replace m8 := BM.cell 8
      replace m9 := BM.cell 9
      replace m10 := BM.cell 10
      simp only [List.getElem?_cons_zero, List.getElem?_cons_succ] at m0 m1 m2 m3 m4 m5 m6 m7 m8 m9 m10
      replace lBM := BM.lt
      go_enter Tryz.func3, Tryz.ntmps3
      go_wp2_with fail
      clear hW0
      refine HG.out.mono ?_
      rintro e w1 ⟨rfl, hq1⟩
      replace BM := BM.keep hq1 BM.lt
      replace m0 := BM.cell 0
      replace m1 := BM.cell 1
      replace m2 := BM.cell 2
      replace m3 := BM.cell 3
      replace m4 := BM.cell 4
      replace m5 := BM.cell 5
      replace m6 := BM.cell 6
      replace m7 := BM.cell 7
      replace m8 := BM.cell 8
      replace m9 := BM.cell 9
      replace m10 := BM.cell 10
      simp only [List.getElem?_cons_zero, List.getElem?_cons_succ] at m0 m1 m2 m3 m4 m5 m6 m7 m8 m9 m10
      replace lBM := BM.lt
      go_wp2_with fail
      refine (HH.out _ (hEw.ofQ hq1)).mono ?_
      rintro e w2 ⟨rfl, hq2⟩
      go_wp2_with fail
      refine (HAw.out _ (hEw.ofQ (Q.trans hq1 hq2))).mono ?_
      rintro e w3 ⟨rfl, hq3⟩
      have hQe := Q.trans hq0 (Q.trans hq1 (Q.trans hq2 hq3))
      go_wp2
      go_ret
      exact ⟨rfl, hQe⟩
end Go.Proofs.YtohonlboaddppaaGreatDoor
