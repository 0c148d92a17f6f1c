/-
  Walks of package front: Check, start, Distance.; Walks of package joint: numbers, sizes.; Walks of package joint: what is known of a rafter at an eaves of a plan of one ring.
-/
import Derived.Test.YtohonlboaddppaaGreatDoorPO
import Derived.Test.YtohonlboaddppaaGreatDoorPH
namespace Go.Proofs.YtohonlboaddppaaGreatDoor
open Go.RowKit Go.Shelf Kp
attribute [local go_sem] Oper.semAt_some
theorem Bd.opp {n : Nat} {y : Rat} (h : Bd n y) : Bd n (-y) := ⟨by show (-y.num).natAbs < _; rw [Int.natAbs_neg]; exact h.1, h.2⟩
theorem Bd.less {m n : Nat} {x y : Rat} (hx : Bd m x) (hy : Bd n y) : Bd (m + n + 1) (x - y) := by
  rw [Rat.sub_eq_add_neg]
  exact hx.add hy.opp
set_option maxRecDepth 100000 in
set_option maxHeartbeats 2000000 in
theorem front_Check (f : Fr) (h : FrOk f) (w : World) (hE : Env w) :
    Calls Tryz.prog 142 #[.agg (frC f).toArray] w fun e w' => e = .returned (.int .i64 0) ∧ Q w w' := by
  have HS := Lib.hid (fun w hw => rational_Check_num f.speed (h.s.rlim (by decide)) w hw)
  have HT := Lib.hid (fun w hw => rational_Check_num f.start (h.p.rlim (by decide)) w hw)
  have HU := Lib.hid (fun w hw => front_number f.speed (h.s.mono (by decide)) w hw)
  have HV := Lib.hid (fun w hw => front_number f.start (h.p.mono (by decide)) w hw)
  have HP := Lib.hid (fun w => lib_HasMinus (rstr f.speed) w)
  have hneg : decide ((rstr f.speed).head? = some 45) = false := by rw [decide_eq_false_iff_not, rstr_head]; have := h.s0; omega
  rw [hneg] at HP
  have hd := h.d
  have h0 := h.c0
  have h1 := h.c1
  clear h hneg
  unfold frC
  generalize rstr f.speed = S at *
  generalize rstr f.start = T at *
  obtain ⟨up, co, dr, sp, st⟩ := f
  simp only at h0 h1 hd ⊢
  have e1 : decide (co < 0) = false := by rw [decide_eq_false_iff_not]; omega
  have e2 : decide ((65536 : Int) < co) = false := by rw [decide_eq_false_iff_not]; omega
  have B := (Blk.new w [.bool up, .int .i64 co, .int .i64 dr, .string ⟨S.toArray⟩, .string ⟨T.toArray⟩] 134).alloc (.cells #[.string ⟨S.toArray⟩, .string ⟨T.toArray⟩] 22)
  have N := Blk.new (w.alloc (.cells #[.bool up, .int .i64 co, .int .i64 dr, .string ⟨S.toArray⟩, .string ⟨T.toArray⟩] 134)) [.string ⟨S.toArray⟩, .string ⟨T.toArray⟩] 22
  rw [World.size_alloc] at N
  obtain ⟨W0, hW0⟩ : ∃ W0, (w.alloc (.cells #[.bool up, .int .i64 co, .int .i64 dr, .string ⟨S.toArray⟩, .string ⟨T.toArray⟩] 134)).alloc (.cells #[.string ⟨S.toArray⟩, .string ⟨T.toArray⟩] 22) = W0 := ⟨_, rfl⟩
  have hq0 : Q w W0 := by rw [← hW0]; exact bt
  have hEw := hE.ofQ hq0
  rw [hW0] at B N
  clear hE
  have hE := hEw
  clear hEw
  rcases hd with rfl | rfl
  all_goals
    have hQ0 := Q.refl W0
    replace b0 := B.cell 0
    replace b1 := B.cell 1
    replace b2 := B.cell 2
    replace b3 := B.cell 3
    replace b4 := B.cell 4
    simp only [List.getElem?_cons_zero, List.getElem?_cons_succ] at b0 b1 b2 b3 b4
    replace lB := B.lt
    replace n0 := N.cell 0
    replace n1 := N.cell 1
    simp only [List.getElem?_cons_zero, List.getElem?_cons_succ] at n0 n1
    replace lN := N.lt
    go_enter Tryz.func142, Tryz.ntmps142
    go_wp2
    refine wp_loop_rounds 3 ?_
    rw [rounds_succ]
    clear hW0
    go_wp2_with fail
    refine (HS.out _ (hE.ofQ bt)).mono ?_
    rintro e Y1 ⟨rfl, hq1⟩
    have hs1 : Q W0 Y1 := Q.trans bt hq1
    have hQ1 : Q W0 Y1 := Q.trans hQ0 hs1
    replace B := B.keep hs1 B.lt
    replace b0 := B.cell 0
    replace b1 := B.cell 1
    replace b2 := B.cell 2
    replace b3 := B.cell 3
    replace b4 := B.cell 4
    simp only [List.getElem?_cons_zero, List.getElem?_cons_succ] at b0 b1 b2 b3 b4
    replace lB := B.lt
    replace N := N.keep hs1 N.lt
    replace n0 := N.cell 0
    replace n1 := N.cell 1
    simp only [List.getElem?_cons_zero, List.getElem?_cons_succ] at n0 n1
    replace lN := N.lt
    go_wp2
    rw [rounds_succ]
    go_wp2_with fail
    refine (HT.out _ (hE.ofQ bt)).mono ?_
    rintro e Y2 ⟨rfl, hq2⟩
    have hs2 : Q Y1 Y2 := Q.trans bt hq2
    have hQ2 : Q W0 Y2 := Q.trans hQ1 hs2
    replace B := B.keep hs2 B.lt
    replace b0 := B.cell 0
    replace b1 := B.cell 1
    replace b2 := B.cell 2
    replace b3 := B.cell 3
    replace b4 := B.cell 4
    simp only [List.getElem?_cons_zero, List.getElem?_cons_succ] at b0 b1 b2 b3 b4
    replace lB := B.lt
    replace N := N.keep hs2 N.lt
    replace n0 := N.cell 0
    replace n1 := N.cell 1
    simp only [List.getElem?_cons_zero, List.getElem?_cons_succ] at n0 n1
    replace lN := N.lt
    go_wp2
    rw [rounds_succ]
    clear N lN n0 n1
    obtain ⟨W2, hW2⟩ : ∃ W2, Y2.alloc (.cells #[.string ⟨S.toArray⟩, .string ⟨T.toArray⟩] 22) = W2 := ⟨_, rfl⟩
    have N := Blk.new Y2 [.string ⟨S.toArray⟩, .string ⟨T.toArray⟩] 22
    have N : Blk W2 Y2.heap.size [.string ⟨S.toArray⟩, .string ⟨T.toArray⟩] 22 := by rw [← hW2]; exact N
    have hqW : Q Y2 W2 := by rw [← hW2]; exact bt
    have hE2 := hE.ofQ (Q.trans hQ2 hqW)
    have hQW := Q.trans hQ2 hqW
    replace B := B.keep hqW B.lt
    clear hE
    have hE := hE2
    clear hE2
    have bb3 := b3
    have bb4 := b4
    have hQ0 := Q.refl W2
    replace b0 := B.cell 0
    replace b1 := B.cell 1
    replace b2 := B.cell 2
    replace b3 := B.cell 3
    replace b4 := B.cell 4
    simp only [List.getElem?_cons_zero, List.getElem?_cons_succ] at b0 b1 b2 b3 b4
    replace lB := B.lt
    replace n0 := N.cell 0
    replace n1 := N.cell 1
    simp only [List.getElem?_cons_zero, List.getElem?_cons_succ] at n0 n1
    replace lN := N.lt
    go_wp2
    refine wp_loop_rounds 3 ?_
    rw [rounds_succ]
    clear hW2
    go_wp2_with fail
    refine (HU.out _ (hE.ofQ bt)).mono ?_
    rintro e Z1 ⟨rfl, hq1⟩
    have hs1 : Q W2 Z1 := Q.trans bt hq1
    have hQ1 : Q W2 Z1 := Q.trans hQ0 hs1
    replace B := B.keep hs1 B.lt
    replace b0 := B.cell 0
    replace b1 := B.cell 1
    replace b2 := B.cell 2
    replace b3 := B.cell 3
    replace b4 := B.cell 4
    simp only [List.getElem?_cons_zero, List.getElem?_cons_succ] at b0 b1 b2 b3 b4
    replace lB := B.lt
    replace N := N.keep hs1 N.lt
    replace n0 := N.cell 0
    replace n1 := N.cell 1
    simp only [List.getElem?_cons_zero, List.getElem?_cons_succ] at n0 n1
    replace lN := N.lt
    go_wp2
    rw [rounds_succ]
    go_wp2_with fail
    refine (HV.out _ (hE.ofQ bt)).mono ?_
    rintro e Z2 ⟨rfl, hq2⟩
    have hs2 : Q Z1 Z2 := Q.trans bt hq2
    have hQ2 : Q W2 Z2 := Q.trans hQ1 hs2
    replace B := B.keep hs2 B.lt
    replace b0 := B.cell 0
    replace b1 := B.cell 1
    replace b2 := B.cell 2
    replace b3 := B.cell 3
    replace b4 := B.cell 4
    simp only [List.getElem?_cons_zero, List.getElem?_cons_succ] at b0 b1 b2 b3 b4
    replace lB := B.lt
    replace N := N.keep hs2 N.lt
    replace n0 := N.cell 0
    replace n1 := N.cell 1
    simp only [List.getElem?_cons_zero, List.getElem?_cons_succ] at n0 n1
    replace lN := N.lt
    go_wp2
    rw [rounds_succ]
    go_wp2_with fail
    refine (HP.out _).mono ?_
    rintro e w9 ⟨rfl, rfl⟩
    have hQe : Q w Z2 := Q.trans hq0 (Q.trans hQW hQ2)
    go_wp2
    go_ret
    exact ⟨rfl, hQe⟩
set_option maxRecDepth 100000 in
set_option maxHeartbeats 2000000 in
theorem front_start (f : Fr) (h : FrOk f) (x y : Rat) (hx : Bd 36 x) (hy : Bd 36 y) (b c : Nat) (w : World) (hE : Env w) (hb : Blk w b [.string ⟨(rstr x).toArray⟩, .string ⟨(rstr y).toArray⟩] 22) :
    Calls Tryz.prog 102 #[.agg (frC f).toArray, .slice (some ⟨b, 0, none⟩) 2 c] w fun e w' => e = .returned (.int .i64 0) ∧ Q w w' := by
  have HC := Lib.hid (fun w hw => front_Check f h w hw)
  have HX := Lib.hid (fun w hw => front_number x hx w hw)
  have HY := Lib.hid (fun w hw => front_number y hy w hw)
  clear h hx hy
  unfold frC at *
  generalize rstr f.speed = S at *
  generalize rstr f.start = T at *
  generalize rstr x = X at *
  generalize rstr y = Y at *
  obtain ⟨up, co, dr, sp, st⟩ := f
  simp only at HC ⊢
  have B := Blk.new w [.bool up, .int .i64 co, .int .i64 dr, .string ⟨S.toArray⟩, .string ⟨T.toArray⟩] 134
  have N := hb.alloc (.cells #[.bool up, .int .i64 co, .int .i64 dr, .string ⟨S.toArray⟩, .string ⟨T.toArray⟩] 134)
  obtain ⟨W0, hW0⟩ : ∃ W0, w.alloc (.cells #[.bool up, .int .i64 co, .int .i64 dr, .string ⟨S.toArray⟩, .string ⟨T.toArray⟩] 134) = W0 := ⟨_, rfl⟩
  have hq0 : Q w W0 := by rw [← hW0]; exact bt
  have hEw := hE.ofQ hq0
  have B : Blk W0 w.heap.size [.bool up, .int .i64 co, .int .i64 dr, .string ⟨S.toArray⟩, .string ⟨T.toArray⟩] 134 := by rw [← hW0]; exact B
  rw [hW0] at N
  clear hE hb
  have hE := hEw
  clear hEw
  have hQ0 := Q.refl W0
  replace b0 := B.cell 0
  replace b1 := B.cell 1
  replace b2 := B.cell 2
  replace b3 := B.cell 3
  replace b4 := B.cell 4
  simp only [List.getElem?_cons_zero, List.getElem?_cons_succ] at b0 b1 b2 b3 b4
  replace lB := B.lt
  replace n0 := N.cell 0
  replace n1 := N.cell 1
  simp only [List.getElem?_cons_zero, List.getElem?_cons_succ] at n0 n1
  replace lN := N.lt
  go_enter Tryz.func102, Tryz.ntmps102
  go_wp2_with fail
  clear hW0
  go_wp2_with fail
  refine (HC.out _ (hE.ofQ bt)).mono ?_
  rintro e Y1 ⟨rfl, hq1⟩
  have hs1 : Q W0 Y1 := Q.trans bt hq1
  have hQ1 : Q W0 Y1 := Q.trans hQ0 hs1
  replace B := B.keep hs1 B.lt
  replace b0 := B.cell 0
  replace b1 := B.cell 1
  replace b2 := B.cell 2
  replace b3 := B.cell 3
  replace b4 := B.cell 4
  simp only [List.getElem?_cons_zero, List.getElem?_cons_succ] at b0 b1 b2 b3 b4
  replace lB := B.lt
  replace N := N.keep hs1 N.lt
  replace n0 := N.cell 0
  replace n1 := N.cell 1
  simp only [List.getElem?_cons_zero, List.getElem?_cons_succ] at n0 n1
  replace lN := N.lt
  go_wp2
  refine wp_loop_rounds 3 ?_
  rw [rounds_succ]
  go_wp2_with fail
  refine (HX.out _ (hE.ofQ bt)).mono ?_
  rintro e Y2 ⟨rfl, hq2⟩
  have hs2 : Q Y1 Y2 := Q.trans bt hq2
  have hQ2 : Q W0 Y2 := Q.trans hQ1 hs2
  replace B := B.keep hs2 B.lt
  replace b0 := B.cell 0
  replace b1 := B.cell 1
  replace b2 := B.cell 2
  replace b3 := B.cell 3
  replace b4 := B.cell 4
  simp only [List.getElem?_cons_zero, List.getElem?_cons_succ] at b0 b1 b2 b3 b4
  replace lB := B.lt
  replace N := N.keep hs2 N.lt
  replace n0 := N.cell 0
  replace n1 := N.cell 1
  simp only [List.getElem?_cons_zero, List.getElem?_cons_succ] at n0 n1
  replace lN := N.lt
  go_wp2
  rw [rounds_succ]
  go_wp2_with fail
  refine (HY.out _ (hE.ofQ bt)).mono ?_
  rintro e Y3 ⟨rfl, hq3⟩
  have hs3 : Q Y2 Y3 := Q.trans bt hq3
  have hQ3 : Q W0 Y3 := Q.trans hQ2 hs3
  replace B := B.keep hs3 B.lt
  replace b0 := B.cell 0
  replace b1 := B.cell 1
  replace b2 := B.cell 2
  replace b3 := B.cell 3
  replace b4 := B.cell 4
  simp only [List.getElem?_cons_zero, List.getElem?_cons_succ] at b0 b1 b2 b3 b4
  replace lB := B.lt
  replace N := N.keep hs3 N.lt
  replace n0 := N.cell 0
  replace n1 := N.cell 1
  simp only [List.getElem?_cons_zero, List.getElem?_cons_succ] at n0 n1
  replace lN := N.lt
  go_wp2
  rw [rounds_succ]
  have hQe := Q.trans hq0 hQ3
  go_wp2
  go_ret
  exact ⟨rfl, hQe⟩
set_option maxRecDepth 100000 in
set_option maxHeartbeats 2000000 in
theorem front_Distance (f : Fr) (h : FrOk f) (x y : Rat) (hx : Bd 30 x) (hy : Bd 30 y) (w : World) (hE : Env w) :
    Calls Tryz.prog 62 #[.agg (frC f).toArray, .agg #[.string ⟨(rstr x).toArray⟩, .string ⟨(rstr y).toArray⟩]] w fun e w' => e = .returned (.tuple #[.string ⟨(rstr (distF f x y)).toArray⟩, .int .i64 0]) ∧ Q w w' := by
  have HT := Lib.hid (fun b c w hw hb => front_start f h x y (hx.mono (by decide)) (hy.mono (by decide)) b c w hw hb)
  have hd1 : f.dir.natAbs < 10 ^ 1 := by rcases h.d with e | e <;> rw [e] <;> decide
  have hc1 : f.coord.natAbs < 10 ^ 5 := by have := h.c0; have := h.c1; omega
  have HD := Lib.hid (fun w hw => front_whole f.dir (by omega) w hw)
  have HC := Lib.hid (fun w hw => front_whole f.coord (by omega) w hw)
  have bd := bd_int hd1 (by decide)
  have bc := bd_int hc1 (by decide)
  obtain ⟨z, hz⟩ : ∃ z, (if f.up then x else y) = z := ⟨_, rfl⟩
  have bz : Bd 30 z := by rw [← hz]; split <;> assumption
  have HS := Lib.hid (fun w hw => front_sub z (f.coord : Rat) bz bc (by decide) w hw)
  have HM := Lib.hid (fun w hw => front_mul (f.dir : Rat) (z - (f.coord : Rat)) bd (bz.less bc) (by decide) w hw)
  unfold distF
  rw [hz]
  have hst : rstr z = if f.up then rstr x else rstr y := by rw [← hz]; split <;> rfl
  unfold frC at *
  generalize rstr ((f.dir : Rat) * (z - (f.coord : Rat))) = R4 at *
  generalize rstr (z - (f.coord : Rat)) = R3 at *
  generalize rstr (f.dir : Rat) = R1 at *
  generalize rstr (f.coord : Rat) = R2 at *
  generalize rstr z = ZZ at *
  generalize rstr f.speed = S at *
  generalize rstr f.start = T at *
  generalize rstr x = X at *
  generalize rstr y = YY at *
  clear bd bc bz hz hd1 hc1 h hx hy
  obtain ⟨up, co, dr, sp, st⟩ := f
  simp only at HT HD HC hst ⊢
  have B := ((Blk.new w [.bool up, .int .i64 co, .int .i64 dr, .string ⟨S.toArray⟩, .string ⟨T.toArray⟩] 134).alloc (.cells #[.string ⟨X.toArray⟩, .string ⟨YY.toArray⟩] 136)).alloc (.cells #[.string ⟨X.toArray⟩, .string ⟨YY.toArray⟩] 22)
  have P := (Blk.new1 w (.cells #[.bool up, .int .i64 co, .int .i64 dr, .string ⟨S.toArray⟩, .string ⟨T.toArray⟩] 134) [.string ⟨X.toArray⟩, .string ⟨YY.toArray⟩] 136).alloc (.cells #[.string ⟨X.toArray⟩, .string ⟨YY.toArray⟩] 22)
  have N := Blk.new2 w (.cells #[.bool up, .int .i64 co, .int .i64 dr, .string ⟨S.toArray⟩, .string ⟨T.toArray⟩] 134) (.cells #[.string ⟨X.toArray⟩, .string ⟨YY.toArray⟩] 136) [.string ⟨X.toArray⟩, .string ⟨YY.toArray⟩] 22
  obtain ⟨W0, hW0⟩ : ∃ W0, ((w.alloc (.cells #[.bool up, .int .i64 co, .int .i64 dr, .string ⟨S.toArray⟩, .string ⟨T.toArray⟩] 134)).alloc (.cells #[.string ⟨X.toArray⟩, .string ⟨YY.toArray⟩] 136)).alloc (.cells #[.string ⟨X.toArray⟩, .string ⟨YY.toArray⟩] 22) = W0 := ⟨_, rfl⟩
  have hq0 : Q w W0 := by rw [← hW0]; exact bt
  have hEw := hE.ofQ hq0
  have N : Blk W0 (w.heap.size + 2) [.string ⟨X.toArray⟩, .string ⟨YY.toArray⟩] 22 := by rw [← hW0]; exact N
  rw [hW0] at B P
  clear hE
  have hE := hEw
  clear hEw
  have HT2 := Lib.hid (fun c W (hq : Q W0 W) => HT.out (w.heap.size + 2) c W (hE.ofQ hq) (N.keep hq N.lt))
  clear HT
  cases up
  all_goals
    simp only [if_true, Bool.false_eq_true, if_false] at hst
    subst hst
    have hQ0 := Q.refl W0
    replace b0 := B.cell 0
    replace b1 := B.cell 1
    replace b2 := B.cell 2
    replace b3 := B.cell 3
    replace b4 := B.cell 4
    simp only [List.getElem?_cons_zero, List.getElem?_cons_succ] at b0 b1 b2 b3 b4
    replace lB := B.lt
    replace p0 := P.cell 0
    replace p1 := P.cell 1
    simp only [List.getElem?_cons_zero, List.getElem?_cons_succ] at p0 p1
    replace lP := P.lt
    go_enter Tryz.func62, Tryz.ntmps62
    go_wp2_with fail
    clear hW0
    refine (HT2.out _ _ (Q.refl W0)).mono ?_
    rintro e w1 ⟨rfl, hq1⟩
    replace B := B.keep hq1 B.lt
    replace P := P.keep hq1 P.lt
    have hE1 := hE.ofQ (Q.trans hq1 (Below.drew (Q.refl w1)))
    have b1 := B.drew.cell 1
    have b2 := B.drew.cell 2
    replace b0 := B.cell 0
    replace p0 := P.cell 0
    replace p1 := P.cell 1
    simp only [List.getElem?_cons_zero, List.getElem?_cons_succ] at b0 b1 b2 p0 p1
    go_wp2_with fail
    refine wp_steadily 11 rfl (by kernel_rfl) rfl ?_
    refine svp 0 ?_
    refine svq 1 rfl (by intro w' hq; have hc0 := qcell hq b2; go_simp; try with_reducible rfl) ?_
    refine steadily_call (i := 2) (v := _) rfl rfl (by kernel_rfl) (by kernel_rfl) (fun _ _ _ h => h) (by rfl) ?_ (fun w' hq => HD.out w' (hE1.ofQ hq)) ?_
    · (intro w' hq; go_simp; try with_reducible rfl)
    simp only [Act.put, List.setIfInBounds_toArray, List.set_cons_zero, List.set_cons_succ]
    refine svp 3 ?_
    refine svp 4 ?_
    refine svq 5 rfl (by intro w' hq; have hc0 := qcell hq b1; go_simp; try with_reducible rfl) ?_
    refine steadily_call (i := 6) (v := _) rfl rfl (by kernel_rfl) (by kernel_rfl) (fun _ _ _ h => h) (by rfl) ?_ (fun w' hq => HC.out w' (hE1.ofQ hq)) ?_
    · (intro w' hq; go_simp; try with_reducible rfl)
    simp only [Act.put, List.setIfInBounds_toArray, List.set_cons_zero, List.set_cons_succ]
    refine steadily_call (i := 7) (v := _) rfl rfl (by kernel_rfl) (by kernel_rfl) (fun _ _ _ h => h) (by rfl) ?_ (fun w' hq => HS.out w' (hE1.ofQ hq)) ?_
    · (intro w' hq; go_simp; try with_reducible rfl)
    simp only [Act.put, List.setIfInBounds_toArray, List.set_cons_zero, List.set_cons_succ]
    refine steadily_call (i := 8) (v := _) rfl rfl (by kernel_rfl) (by kernel_rfl) (fun _ _ _ h => h) (by rfl) ?_ (fun w' hq => HM.out w' (hE1.ofQ hq)) ?_
    · (intro w' hq; go_simp; try with_reducible rfl)
    simp only [Act.put, List.setIfInBounds_toArray, List.set_cons_zero, List.set_cons_succ]
    refine svp 9 ?_
    refine svp 10 ?_
    refine steadily_done (by kernel_rfl) (fun w3 hq3 => ?_)
    simp only [List.drop_succ_cons, List.drop_nil]
    have hQe : Q w w3 := Q.trans hq0 (Q.trans hq1 (Q.trans (Below.drew (Q.refl _)) hq3))
    go_wp2
    go_ret2
    exact ⟨rfl, hQe⟩
end Go.Proofs.YtohonlboaddppaaGreatDoor
namespace Go.Proofs.YtohonlboaddppaaGreatDoor
open Go.RowKit Go.Shelf Kp
attribute [local go_sem] Oper.semAt_some
set_option maxHeartbeats 400000 in
theorem joint_whole (n : Int) (hn : n.natAbs < 100000000000000000) (w : World) (hE : Env w) :
    Calls Tryz.prog 37 #[.int .i64 n] w fun e w' => e = .returned (.string ⟨(rstr (n : Rat)).toArray⟩) ∧ Q w w' := by
  have HO := Lib.hid (fun w hw => rational_Of_short n 1 (by decide) hn (by decide) w hw)
  rw [divInt_one] at HO
  generalize rstr (n : Rat) = S at *
  go_enter Tryz.func37, Tryz.ntmps37
  have hQ0 := Q.refl w
  go_wp2_with fail
  refine (HO.out _ (hE.ofQ bt)).mono ?_
  rintro e w1 ⟨rfl, hq1⟩
  have hs1 : Q w w1 := Q.trans bt hq1
  have hQ1 : Q w w1 := Q.trans hQ0 hs1
  go_wp2
  go_ret
  exact ⟨rfl, bt⟩
def ordF (x y : Rat) : Int := Lib.compareInt (x.num * y.den) (y.num * x.den)
theorem ordF_lt {x y : Rat} (h : x < y) : ordF x y = -1 := by
  have h2 := (Rat.lt_iff x y).1 h
  unfold ordF Lib.compareInt
  rw [if_pos h2]
theorem ordF_gt {x y : Rat} (h : y < x) : ordF x y = 1 := by
  have h2 := (Rat.lt_iff y x).1 h
  unfold ordF Lib.compareInt
  rw [if_neg (by omega), if_pos h2]
theorem ordF_eq (x : Rat) : ordF x x = 0 := by
  unfold ordF Lib.compareInt
  rw [if_neg (by omega), if_neg (by omega)]
set_option maxHeartbeats 400000 in
theorem joint_order {m n : Nat} (x y : Rat) (hx : Bd m x) (hy : Bd n y) (h : m + n ≤ 300) (w : World) (hE : Env w) :
    Calls Tryz.prog 36 #[.string ⟨(rstr x).toArray⟩, .string ⟨(rstr y).toArray⟩] w fun e w' => e = .returned (.int .i64 (ordF x y)) ∧ Q w w' := by
  have HO := Lib.hid (fun w hw => rational_Compare x y (hx.rlim (by omega)) (hy.rlim (by omega)) (lim_bd (cross_lt hx hy) h) (lim_bd (cross_lt hy hx) (by omega)) w hw)
  unfold ordF
  generalize Lib.compareInt (x.num * y.den) (y.num * x.den) = c at *
  generalize rstr x = X at *
  generalize rstr y = Y at *
  go_enter Tryz.func36, Tryz.ntmps36
  have hQ0 := Q.refl w
  go_wp2_with fail
  refine (HO.out _ (hE.ofQ bt)).mono ?_
  rintro e w1 ⟨rfl, hq1⟩
  have hs1 : Q w w1 := Q.trans bt hq1
  have hQ1 : Q w w1 := Q.trans hQ0 hs1
  go_wp2
  go_ret
  exact ⟨rfl, bt⟩
set_option maxHeartbeats 400000 in
theorem joint_room {m n : Nat} (d : Int) (P : Str) (x y : Rat) (hx : Bd m x) (hy : Bd n y) (h : m + n + 1 ≤ 300) (w : World) (hE : Env w) :
    Calls Tryz.prog 38 #[.agg #[.int .i64 d, .string ⟨P.toArray⟩, .string ⟨(rstr x).toArray⟩, .string ⟨(rstr y).toArray⟩]] w fun e w' => e = .returned (.string ⟨(rstr (x - y)).toArray⟩) ∧ Q w w' := by
  have HO := Lib.hid (fun w hw => rational_Sub_bd x y hx hy h w hw)
  generalize rstr (x - y) = S at *
  generalize rstr x = X at *
  generalize rstr y = Y at *
  go_enter Tryz.func38, Tryz.ntmps38
  have hQ0 := Q.refl w
  go_wp2_with fail
  refine (HO.out _ (hE.ofQ bt)).mono ?_
  rintro e w1 ⟨rfl, hq1⟩
  have hs1 : Q w w1 := Q.trans bt hq1
  have hQ1 : Q w w1 := Q.trans hQ0 hs1
  go_wp2
  go_ret
  exact ⟨rfl, bt⟩
set_option maxHeartbeats 1000000 in
theorem joint_short (q : Rat) (h : Bd 36 q) (w : World) (hE : Env w) :
    Calls Tryz.prog 109 #[.string ⟨(rstr q).toArray⟩] w fun e w' => e = .returned (.bool true) ∧ Q w w' := by
  have HP := Lib.hid (fun w hw => rational_Parts q (h.rlim (by decide)) w hw)
  obtain ⟨l1, l2⟩ := bd_lens h
  clear h
  generalize rstr q = S at *
  have HT := Lib.hid (fun w => lib_TrimMinus (Lib.itoa q.num) w)
  generalize unsig (Lib.itoa q.num) = U at *
  generalize Lib.itoa q.num = N at *
  generalize Lib.itoa (q.den : Int) = D at *
  have hm : decide (max (U.length : Int) (D.length : Int) ≤ 36) = true := by rw [decide_eq_true_iff]; omega
  go_enter Tryz.func109, Tryz.ntmps109
  have hQ0 := Q.refl w
  go_wp2_with fail
  refine (HP.out _ (hE.ofQ bt)).mono ?_
  rintro e w1 ⟨rfl, hq1⟩
  have hs1 : Q w w1 := Q.trans bt hq1
  have hQ1 : Q w w1 := Q.trans hQ0 hs1
  go_wp2_with fail
  refine (HT.out _).mono ?_
  rintro e w2 ⟨rfl, rfl⟩
  go_wp2
  go_ret
  refine ⟨?_, hQ1⟩
  first | rfl | (show Ending.returned (Value.bool (decide _)) = _; rw [hm])
end Go.Proofs.YtohonlboaddppaaGreatDoor
namespace Go.Proofs.YtohonlboaddppaaGreatDoor
open Go.RowKit Go.Shelf Kp
attribute [local go_sem] Oper.semAt_some
def rafC (x : Raf) : List Value := [.int .i64 x.dep, .string ⟨(rstr x.pitch).toArray⟩, .string ⟨(rstr x.run).toArray⟩, .string ⟨(rstr (x.over : Rat)).toArray⟩]
theorem BlkK {w w' : World} {b : Nat} {cs : List Value} {t : TypeId} (h : Blk w b cs t) (hq : Q w w') : Blk w' b cs t := h.keep hq h.lt
theorem cellK {w w' : World} {a : Addr} {v : Value} (h : w.cell? a = some v) (hq : Q w w') : w'.cell? a = some v := qcell hq h
theorem frC_len (f : Fr) : (frC f).length = 5 := rfl
theorem results_raf {W : World} {b : Nat} {x y z u v : Value} (h : Blk W b [x, y, z, u] 100) (fn : Func) (hf : fn.results = #[.cell 4 100, .tmp 5]) (tmps : Array Value)
    (hp : tmps.getD 4 undef = .pointer (some ⟨b, 0, none⟩)) (hp5 : tmps.getD 5 undef = v) :
    (results fn tmps).run Tryz.prog W = .ok (.tuple #[.agg #[x, y, z, u], v]) W := by
  have c0 := h.cell 0
  have c1 := h.cell 1
  have c2 := h.cell 2
  have c3 := h.cell 3
  simp only [List.getElem?_cons_zero, List.getElem?_cons_succ] at c0 c1 c2 c3
  simp only [Array.getD_eq_getD_getElem?] at hp hp5
  simp [results, hf, hp, hp5, go_sem, c0, c1, c2, c3]
theorem distF_bd {f : Fr} (h : FrOk f) {x y : Rat} (hx : Bd 30 x) (hy : Bd 30 y) : Bd 37 (distF f x y) := by
  have hd1 : f.dir.natAbs < 10 ^ 1 := by rcases h.d with e | e <;> rw [e] <;> decide
  have hc1 : f.coord.natAbs < 10 ^ 5 := by have := h.c0; have := h.c1; omega
  have bd := bd_int hd1 (by decide)
  have bc := bd_int hc1 (by decide)
  have bz : Bd 30 (if f.up then x else y) := by split <;> assumption
  unfold distF
  exact (bd.mul (bz.less bc)).mono (by decide)
structure RafOk (r : List Sd) (m : Mb) (n : Nat) : Prop where
  hip : hipE m = 0
  kind : m.kind ≤ 5
  face : m.face = (n : Int)
  lt : n < r.length
  gable : (sdAt r n).gable = false
  low : lowF [r] m = 0
  high : ((sdAt r n).over : Rat) < highF [r] m
theorem faceS_one {r : List Sd} {m : Mb} {n : Nat} (hf : m.face = (n : Int)) : faceS [r] m = sdAt r n := by
  unfold faceS sdAt
  rw [hf]
  simp
set_option maxRecDepth 100000 in
set_option maxHeartbeats 8000000 in
theorem joint_of1 (r : List Sd) (h : planE [r] = 0) (m : Mb) (hs : m.short) (n : Nat) (hm : RafOk r m n) (v : Value) (p1 p2 p3 : Option Addr) (l1 l2 l3 k1 k2 k3 : Nat) (w : World) (hE : Env w) (hv : RgSl w v [r]) :
    Calls Tryz.prog 35 #[.agg #[v, .slice p1 l1 k1, .slice p2 l2 k2, .slice p3 l3 k3], .agg (mbC m).toArray] w fun e w' => e = .returned (.tuple #[.agg (rafC (rafOf [r] m)).toArray, .int .i64 0]) ∧ Q w w' := by
  have ok := oneOk_of h
  have okm := hipE_ok hm.hip
  have hnl := hm.lt
  have hfl : ([r] : List (List Sd)).flatten = r := by simp
  have hrg := ok.rg _ (sdAt_mem hnl)
  have HS1 : Hid (∀ W, Q w W → Calls Tryz.prog 60 #[.agg #[v]] W fun e w' => ∃ v', e = .returned (.tuple #[v', .int .i64 0]) ∧ Q W w' ∧ RowSl 7 sdC w' v' r) := Lib.hid (fun W hq => plan_Sides1 r h v W (hv.keep hq))
  have HA : Hid (∀ W, Env W → Q w W → Calls Tryz.prog 61 #[.agg #[v]] W fun e w' => ∃ v', e = .returned (.tuple #[v', .int .i64 0]) ∧ w'.ownsRow W.heap.size 134 5 v' r.length (rowOf frC (frontsF [r])) ∧ Q W w') := Lib.hid (fun W hW hq => front_All1 r h v W hW (hv.keep hq))
  have HH : Hid (∀ w, Env w → Calls Tryz.prog 5 #[.agg (mbC m).toArray] w fun e w' => e = .returned (.int .i64 0) ∧ Q w w') := Lib.hid (fun w hw => by have := hip_Check_any m hs w hw; rw [hm.hip] at this; exact this)
  have hFl : n < (frontsF [r]).length := by rw [frontsF_len, hfl]; exact hnl
  obtain ⟨F, hF⟩ : ∃ F, (frontsF [r])[n] = F := ⟨_, rfl⟩
  have hFF : faceF [r] m = F := by
    unfold faceF
    rw [hm.face, ← hF, List.getD_eq_getElem?_getD]
    simp [hFl]
  have okF : FrOk F := by rw [← hF]; exact frontsF_ok (by rw [hfl]; exact ok.rg) _ (List.getElem_mem hFl)
  have bf := okm.bf hs
  have bt := okm.bt hs
  have HD1 := Lib.hid (fun w hw => front_Distance F okF m.pf.x m.pf.y bf.1 bf.2.1 w hw)
  have HD2 := Lib.hid (fun w hw => front_Distance F okF m.pt.x m.pt.y bt.1 bt.2.1 w hw)
  have bh := distF_bd okF bt.1 bt.2.1
  have hlo : distF F m.pf.x m.pf.y = 0 := by have := hm.low; unfold lowF at this; rw [hFF] at this; exact this
  have hhi : highF [r] m = distF F m.pt.x m.pt.y := by unfold highF; rw [hFF]
  rw [hlo, rstr_zero, okm.strf.1, okm.strf.2.1] at HD1
  rw [← hhi, okm.strt.1, okm.strt.2.1] at HD2
  rw [← hhi] at bh
  have ho := hm.high
  have hov : (sdAt r n).over.natAbs < 10 ^ 5 := by have := hrg.o0; have := hrg.o1; omega
  have HW := Lib.hid (fun w hw => joint_whole (sdAt r n).over (by omega) w hw)
  have HO := Lib.hid (fun w hw => joint_order (highF [r] m) ((sdAt r n).over : Rat) bh (bd_int hov (by decide)) (by decide) w hw)
  rw [ordF_gt ho] at HO
  have hrn := hrg.n hm.gable
  obtain ⟨u, hu⟩ := Int.eq_ofNat_of_zero_le (show 0 ≤ (sdAt r n).run by omega)
  have HP := Lib.hid (fun w hw => rational_Of_short (sdAt r n).rise u (by omega) (by omega) (by omega) w hw)
  have hraf : rafC (rafOf [r] m) = [.int .i64 m.dep, .string ⟨(rstr (Rat.divInt (sdAt r n).rise (u : Nat))).toArray⟩, .string ⟨(rstr (highF [r] m)).toArray⟩, .string ⟨(rstr ((sdAt r n).over : Rat)).toArray⟩] := by
    unfold rafC rafOf
    rw [faceS_one hm.face, hu]
  rw [hraf]
  have hg := hm.gable
  have hk := hm.kind
  have hfc := hm.face
  have hln : (n : Int) < r.length := by omega
  have hrl : 0 < r.length := by omega
  have h24 := ok.le
  have HF : Hid (∀ (W : World) (v' : Value) (B : Nat), W.ownsRow B 134 5 v' r.length (rowOf frC (frontsF [r])) → ∃ g cap, v' = .slice (some ⟨g, 0, none⟩) r.length cap ∧ ∀ j u, j < 5 → (frC F)[j]? = some u → W.cell? ⟨g, n * 5 + j, none⟩ = some u) := Lib.hid (fun W v' B how => by
    obtain ⟨g, cap, rfl⟩ := row_pos how hrl
    refine ⟨g, cap, rfl, fun j u hj hu => ?_⟩
    have := how.cells rfl (n * 5 + j) u (by rw [rowOf_get frC_len _ n hFl j hj, hF]; exact hu)
    rw [Addr.add_lit, Nat.zero_add] at this
    exact this)
  generalize rstr (Rat.divInt (sdAt r n).rise (u : Nat)) = PI at *
  generalize rstr (highF [r] m) = HI at *
  generalize rstr ((sdAt r n).over : Rat) = OV at *
  obtain ⟨a0, cap0, rfl, -⟩ := hv
  clear hraf ho hov hrg okF hFF hlo hhi bh bf bt okm hm hs hF ok h hFl hfl
  obtain ⟨ki, fa, ot, fx, fy, fz, tx, ty, tz, wi, de⟩ := m
  simp only at hk hfc
  subst hfc
  unfold mbC at *
  unfold frC at HD1 HD2
  simp only at HH HD1 HD2 ⊢
  simp only [List.length_cons, List.length_nil, Nat.zero_add] at HS1 HA ⊢
  have hkz : decide ((5 : Int) < ki) = false := by rw [decide_eq_false_iff_not]; omega
  have hnz : decide ((r.length : Int) ≤ (n : Int)) = false := by rw [decide_eq_false_iff_not]; omega
  have hn0 : (0 : Int) ≤ n := by omega
  have BR := ((Blk.new w [.slice a0 1 cap0, .slice p1 l1 k1, .slice p2 l2 k2, .slice p3 l3 k3] 54).alloc (.cells #[.int .i64 ki, .int .i64 n, .int .i64 ot, .string ⟨fx.toArray⟩, .string ⟨fy.toArray⟩, .string ⟨fz.toArray⟩, .string ⟨tx.toArray⟩, .string ⟨ty.toArray⟩, .string ⟨tz.toArray⟩, .int .i64 wi, .int .i64 de] 26)).alloc (.cells #[.int .i64 0, .string ⟨#[]⟩, .string ⟨#[]⟩, .string ⟨#[]⟩] 100)
  have BM := (Blk.new1 w (.cells #[.slice a0 1 cap0, .slice p1 l1 k1, .slice p2 l2 k2, .slice p3 l3 k3] 54) [.int .i64 ki, .int .i64 n, .int .i64 ot, .string ⟨fx.toArray⟩, .string ⟨fy.toArray⟩, .string ⟨fz.toArray⟩, .string ⟨tx.toArray⟩, .string ⟨ty.toArray⟩, .string ⟨tz.toArray⟩, .int .i64 wi, .int .i64 de] 26).alloc (.cells #[.int .i64 0, .string ⟨#[]⟩, .string ⟨#[]⟩, .string ⟨#[]⟩] 100)
  have BZ := Blk.new2 w (.cells #[.slice a0 1 cap0, .slice p1 l1 k1, .slice p2 l2 k2, .slice p3 l3 k3] 54) (.cells #[.int .i64 ki, .int .i64 n, .int .i64 ot, .string ⟨fx.toArray⟩, .string ⟨fy.toArray⟩, .string ⟨fz.toArray⟩, .string ⟨tx.toArray⟩, .string ⟨ty.toArray⟩, .string ⟨tz.toArray⟩, .int .i64 wi, .int .i64 de] 26) [.int .i64 0, .string ⟨#[]⟩, .string ⟨#[]⟩, .string ⟨#[]⟩] 100
  obtain ⟨W0, hW0⟩ : ∃ W0, ((w.alloc (.cells #[.slice a0 1 cap0, .slice p1 l1 k1, .slice p2 l2 k2, .slice p3 l3 k3] 54)).alloc (.cells #[.int .i64 ki, .int .i64 n, .int .i64 ot, .string ⟨fx.toArray⟩, .string ⟨fy.toArray⟩, .string ⟨fz.toArray⟩, .string ⟨tx.toArray⟩, .string ⟨ty.toArray⟩, .string ⟨tz.toArray⟩, .int .i64 wi, .int .i64 de] 26)).alloc (.cells #[.int .i64 0, .string ⟨#[]⟩, .string ⟨#[]⟩, .string ⟨#[]⟩] 100) = W0 := ⟨_, rfl⟩
  have hq0 : Q w W0 := by rw [← hW0]; exact bt
  have hs0 : W0.heap.size = w.heap.size + 3 := by rw [← hW0]; simp
  have hEw := hE.ofQ hq0
  rw [hW0] at BR BM
  have BZ : Blk W0 (w.heap.size + 2) [.int .i64 0, .string ⟨#[]⟩, .string ⟨#[]⟩, .string ⟨#[]⟩] 100 := by rw [← hW0]; exact BZ
  clear hE
  have hE := hEw
  clear hEw
  have hQ0 := Q.refl W0
  replace r0 := BR.cell 0
  simp only [List.getElem?_cons_zero] at r0
  replace lBR := BR.lt
  replace m0 := BM.cell 0
  replace m1 := BM.cell 1
  replace m2 := BM.cell 2
  replace m3 := BM.cell 3
  replace m4 := BM.cell 4
  replace m5 := BM.cell 5
  replace m6 := BM.cell 6
  replace m7 := BM.cell 7
  replace m8 := BM.cell 8
  replace m9 := BM.cell 9
  replace m10 := BM.cell 10
  simp only [List.getElem?_cons_zero, List.getElem?_cons_succ] at m0 m1 m2 m3 m4 m5 m6 m7 m8 m9 m10
  replace lBM := BM.lt
  go_enter Tryz.func35, Tryz.ntmps35
  go_wp2_with fail
  clear hW0
  go_wp2_with fail
  refine (HS1.out _ hq0).mono ?_
  rintro e Y1 ⟨vs, rfl, hq1, hrow⟩
  have hs1 : Q W0 Y1 := Q.trans bt hq1
  have hQ1 : Q W0 Y1 := Q.trans hQ0 hs1
  replace BZ := BlkK BZ hs1
  replace BR := BR.keep hs1 BR.lt
  replace r0 := BR.cell 0
  simp only [List.getElem?_cons_zero] at r0
  replace lBR := BR.lt
  replace BM := BM.keep hs1 BM.lt
  replace m0 := BM.cell 0
  replace m1 := BM.cell 1
  replace m2 := BM.cell 2
  replace m3 := BM.cell 3
  replace m4 := BM.cell 4
  replace m5 := BM.cell 5
  replace m6 := BM.cell 6
  replace m7 := BM.cell 7
  replace m8 := BM.cell 8
  replace m9 := BM.cell 9
  replace m10 := BM.cell 10
  simp only [List.getElem?_cons_zero, List.getElem?_cons_succ] at m0 m1 m2 m3 m4 m5 m6 m7 m8 m9 m10
  replace lBM := BM.lt
  obtain ⟨a, cap, rfl, -⟩ := id hrow
  obtain ⟨-, hrw, -⟩ := RowSl.at hrow
  obtain ⟨b, o, rfl, hd⟩ := hrw n hnl
  clear hrw hrow HS1
  generalize sdAt r n = s at *
  obtain ⟨sx, sy, sr, su, sg, sp, so⟩ := s
  simp only at hg hu HW HO HP hrn
  subst hg hu
  have d0 : Y1.cell? ⟨b, o + n * 7, none⟩ = some (.int .i64 sx) := hd 0 _ rfl
  have d1 : Y1.cell? ⟨b, o + n * 7 + 1, none⟩ = some (.int .i64 sy) := hd 1 _ rfl
  have d2 : Y1.cell? ⟨b, o + n * 7 + 2, none⟩ = some (.int .i64 sr) := hd 2 _ rfl
  have d3 : Y1.cell? ⟨b, o + n * 7 + 3, none⟩ = some (.int .i64 (u : Nat)) := hd 3 _ rfl
  have d4 : Y1.cell? ⟨b, o + n * 7 + 4, none⟩ = some (.bool false) := hd 4 _ rfl
  have d5 : Y1.cell? ⟨b, o + n * 7 + 5, none⟩ = some (.int .i64 sp) := hd 5 _ rfl
  have d6 : Y1.cell? ⟨b, o + n * 7 + 6, none⟩ = some (.int .i64 so) := hd 6 _ rfl
  clear hd
  go_wp2_with fail
  refine (HH.out _ (hE.ofQ bt)).mono ?_
  rintro e Y2 ⟨rfl, hq2⟩
  have hs2 : Q Y1 Y2 := Q.trans bt hq2
  have hQ2 : Q W0 Y2 := Q.trans hQ1 hs2
  replace BZ := BlkK BZ hs2
  replace d0 := cellK d0 hs2
  replace d1 := cellK d1 hs2
  replace d2 := cellK d2 hs2
  replace d3 := cellK d3 hs2
  replace d4 := cellK d4 hs2
  replace d5 := cellK d5 hs2
  replace d6 := cellK d6 hs2
  replace BR := BR.keep hs2 BR.lt
  replace r0 := BR.cell 0
  simp only [List.getElem?_cons_zero] at r0
  replace lBR := BR.lt
  replace BM := BM.keep hs2 BM.lt
  replace m0 := BM.cell 0
  replace m1 := BM.cell 1
  replace m2 := BM.cell 2
  replace m3 := BM.cell 3
  replace m4 := BM.cell 4
  replace m5 := BM.cell 5
  replace m6 := BM.cell 6
  replace m7 := BM.cell 7
  replace m8 := BM.cell 8
  replace m9 := BM.cell 9
  replace m10 := BM.cell 10
  simp only [List.getElem?_cons_zero, List.getElem?_cons_succ] at m0 m1 m2 m3 m4 m5 m6 m7 m8 m9 m10
  replace lBM := BM.lt
  obtain ⟨W2, hW2⟩ : ∃ W2, Y2.alloc (.cells #[.int .i64 sx, .int .i64 sy, .int .i64 sr, .int .i64 (u : Nat), .bool false, .int .i64 sp, .int .i64 so] 98) = W2 := ⟨_, rfl⟩
  have S := Blk.new Y2 [.int .i64 sx, .int .i64 sy, .int .i64 sr, .int .i64 (u : Nat), .bool false, .int .i64 sp, .int .i64 so] 98
  have S : Blk W2 Y2.heap.size [.int .i64 sx, .int .i64 sy, .int .i64 sr, .int .i64 (u : Nat), .bool false, .int .i64 sp, .int .i64 so] 98 := by rw [← hW2]; exact S
  have hqW : Q Y2 W2 := by rw [← hW2]; exact bt
  have hE2 := hE.ofQ (Q.trans hQ2 hqW)
  have hQW : Q W0 W2 := Q.trans hQ2 hqW
  have hwW : Q w W2 := Q.trans hq0 hQW
  have rr0 := r0
  have mm0 := m0
  have mm1 := m1
  replace BR := BR.keep hqW BR.lt
  replace BM := BM.keep hqW BM.lt
  replace BZ := BlkK BZ hqW
  clear hE
  have hE := hE2
  clear hE2 HH
  have hQ0 := Q.refl W2
  replace r0 := BR.cell 0
  simp only [List.getElem?_cons_zero] at r0
  replace lBR := BR.lt
  replace m0 := BM.cell 0
  replace m1 := BM.cell 1
  replace m2 := BM.cell 2
  replace m3 := BM.cell 3
  replace m4 := BM.cell 4
  replace m5 := BM.cell 5
  replace m6 := BM.cell 6
  replace m7 := BM.cell 7
  replace m8 := BM.cell 8
  replace m9 := BM.cell 9
  replace m10 := BM.cell 10
  simp only [List.getElem?_cons_zero, List.getElem?_cons_succ] at m0 m1 m2 m3 m4 m5 m6 m7 m8 m9 m10
  replace lBM := BM.lt
  replace s0 := S.cell 0
  replace s1 := S.cell 1
  replace s2 := S.cell 2
  replace s3 := S.cell 3
  replace s4 := S.cell 4
  replace s5 := S.cell 5
  replace s6 := S.cell 6
  simp only [List.getElem?_cons_zero, List.getElem?_cons_succ] at s0 s1 s2 s3 s4 s5 s6
  replace lS := S.lt
  go_wp2_with fail
  refine (HA.out _ hE hwW).mono ?_
  rintro e Z1 ⟨vf, rfl, hown, hq1⟩
  have hs1 : Q W2 Z1 := Q.trans bt hq1
  have hQ1 : Q W2 Z1 := Q.trans hQ0 hs1
  replace BZ := BlkK BZ hs1
  replace BR := BR.keep hs1 BR.lt
  replace r0 := BR.cell 0
  simp only [List.getElem?_cons_zero] at r0
  replace lBR := BR.lt
  replace BM := BM.keep hs1 BM.lt
  replace m0 := BM.cell 0
  replace m1 := BM.cell 1
  replace m2 := BM.cell 2
  replace m3 := BM.cell 3
  replace m4 := BM.cell 4
  replace m5 := BM.cell 5
  replace m6 := BM.cell 6
  replace m7 := BM.cell 7
  replace m8 := BM.cell 8
  replace m9 := BM.cell 9
  replace m10 := BM.cell 10
  simp only [List.getElem?_cons_zero, List.getElem?_cons_succ] at m0 m1 m2 m3 m4 m5 m6 m7 m8 m9 m10
  replace lBM := BM.lt
  replace S := S.keep hs1 S.lt
  replace s0 := S.cell 0
  replace s1 := S.cell 1
  replace s2 := S.cell 2
  replace s3 := S.cell 3
  replace s4 := S.cell 4
  replace s5 := S.cell 5
  replace s6 := S.cell 6
  simp only [List.getElem?_cons_zero, List.getElem?_cons_succ] at s0 s1 s2 s3 s4 s5 s6
  replace lS := S.lt
  clear hW2 d0 d1 d2 d3 d4 d5 d6 rr0 mm0 mm1 HA
  obtain ⟨g, cp, rfl, hf⟩ := HF.out _ _ _ hown
  have f0 := hf 0 _ (by decide) rfl
  have f1 := hf 1 _ (by decide) rfl
  have f2 := hf 2 _ (by decide) rfl
  have f3 := hf 3 _ (by decide) rfl
  have f4 := hf 4 _ (by decide) rfl
  rw [Nat.add_zero] at f0
  clear hf hown HF
  have hEd : Env Z1.drew := hE.ofQ (Q.trans hQ1 (Below.drew (Q.refl Z1)))
  go_wp2_with fail
  refine wp_steadily 18 rfl (by kernel_rfl) rfl ?_
  refine svp 0 ?_
  refine svp 1 ?_
  refine svq 2 rfl (by intro w' hq; have hc0 := qcell hq m1; go_simp; try with_reducible rfl) ?_
  refine svp 3 ?_
  refine svq 4 rfl (by intro w' hq; have hc0 := qcell hq f0; have hc1 := qcell hq f1; have hc2 := qcell hq f2; have hc3 := qcell hq f3; have hc4 := qcell hq f4; go_simp; try with_reducible rfl) ?_
  refine svp 5 ?_
  refine svp 6 ?_
  refine svq 7 rfl (by intro w' hq; have hc0 := qcell hq m3; go_simp; try with_reducible rfl) ?_
  refine svp 8 ?_
  refine svp 9 ?_
  refine svq 10 rfl (by intro w' hq; have hc0 := qcell hq m4; go_simp; try with_reducible rfl) ?_
  refine svp 11 ?_
  refine steadily_call (i := 12) (v := _) rfl rfl (by kernel_rfl) (by kernel_rfl) (fun _ _ _ h => h) (by rfl) ?_ (fun w' hq => HD1.out w' (hEd.ofQ hq)) ?_
  · (intro w' hq; go_simp; try with_reducible rfl)
  simp only [Act.put, List.setIfInBounds_toArray, List.set_cons_zero, List.set_cons_succ]
  refine svp 13 ?_
  refine svp 14 ?_
  refine svp 15 ?_
  refine svp 16 ?_
  refine svp 17 ?_
  refine steadily_done (by kernel_rfl) (fun w3 hq3 => ?_)
  simp only [List.drop_succ_cons, List.drop_nil]
  have hqa : Q Z1 w3 := Q.trans (Below.drew (Q.refl Z1)) hq3
  replace f0 := qcell hqa f0
  replace f1 := qcell hqa f1
  replace f2 := qcell hqa f2
  replace f3 := qcell hqa f3
  replace f4 := qcell hqa f4
  replace m1 := qcell hqa m1
  replace m6 := qcell hqa m6
  replace m7 := qcell hqa m7
  have hEe : Env w3.drew := hE.ofQ (Q.trans hQ1 (Q.trans hqa (Below.drew (Q.refl w3))))
  clear hq3 HD1
  go_wp2_with fail
  refine wp_steadily 18 rfl (by kernel_rfl) rfl ?_
  refine svp 0 ?_
  refine svp 1 ?_
  refine svq 2 rfl (by intro w' hq; have hc0 := qcell hq m1; go_simp; try with_reducible rfl) ?_
  refine svp 3 ?_
  refine svq 4 rfl (by intro w' hq; have hc0 := qcell hq f0; have hc1 := qcell hq f1; have hc2 := qcell hq f2; have hc3 := qcell hq f3; have hc4 := qcell hq f4; go_simp; try with_reducible rfl) ?_
  refine svp 5 ?_
  refine svp 6 ?_
  refine svq 7 rfl (by intro w' hq; have hc0 := qcell hq m6; go_simp; try with_reducible rfl) ?_
  refine svp 8 ?_
  refine svp 9 ?_
  refine svq 10 rfl (by intro w' hq; have hc0 := qcell hq m7; go_simp; try with_reducible rfl) ?_
  refine svp 11 ?_
  refine steadily_call (i := 12) (v := _) rfl rfl (by kernel_rfl) (by kernel_rfl) (fun _ _ _ h => h) (by rfl) ?_ (fun w' hq => HD2.out w' (hEe.ofQ hq)) ?_
  · (intro w' hq; go_simp; try with_reducible rfl)
  simp only [Act.put, List.setIfInBounds_toArray, List.set_cons_zero, List.set_cons_succ]
  refine svp 13 ?_
  refine svp 14 ?_
  refine svp 15 ?_
  refine svp 16 ?_
  refine svp 17 ?_
  refine steadily_done (by kernel_rfl) (fun w5 hq5 => ?_)
  simp only [List.drop_succ_cons, List.drop_nil]
  have hqb : Q Z1 w5 := Q.trans hqa (Q.trans (Below.drew (Q.refl w3)) hq5)
  have e10 := qcell hqb m10
  have e6 := qcell hqb s6
  have hEf : Env w5.drew := hE.ofQ (Q.trans hQ1 (Q.trans hqb (Below.drew (Q.refl w5))))
  clear hq5 HD2 f0 f1 f2 f3 f4
  go_wp2_with fail
  refine wp_steadily 8 rfl (by kernel_rfl) rfl ?_
  refine svp 0 ?_
  refine svq 1 rfl (by intro w' hq; have hc0 := qcell hq e10; go_simp; try with_reducible rfl) ?_
  refine svp 2 ?_
  refine svp 3 ?_
  refine svq 4 rfl (by intro w' hq; have hc0 := qcell hq e6; go_simp; try with_reducible rfl) ?_
  refine steadily_call (i := 5) (v := _) rfl rfl (by kernel_rfl) (by kernel_rfl) (fun _ _ _ h => h) (by rfl) ?_ (fun w' hq => HW.out w' (hEf.ofQ hq)) ?_
  · (intro w' hq; go_simp; try with_reducible rfl)
  simp only [Act.put, List.setIfInBounds_toArray, List.set_cons_zero, List.set_cons_succ]
  refine svp 6 ?_
  refine steadily_alloc (i := 7) (.cells #[.int .i64 0, .string ⟨#[]⟩, .string ⟨#[]⟩, .string ⟨#[]⟩] 100) rfl rfl (by kernel_rfl) (by rfl) ?_ (fun w6 hq6 => ?_)
  · intro w' hq
    go_simp; try with_reducible rfl
  simp only [Act.put, List.setIfInBounds_toArray, List.set_cons_zero, List.set_cons_succ]
  refine steadily_done (by kernel_rfl) (fun w7 hq7 => ?_)
  simp only [List.drop_succ_cons, List.drop_zero]
  have hqc : Q Z1 w7 := Q.trans hqb (Q.trans (Below.drew (Q.refl w5)) (Q.trans hq6 (Q.trans ((Below.refl _ w6).alloc (Nat.le_refl _) _) hq7)))
  have T := (Blk.new w6 [.int .i64 0, .string ⟨#[]⟩, .string ⟨#[]⟩, .string ⟨#[]⟩] 100).keep hq7 (by simp)
  have t0 := T.cell 0
  have t1 := T.cell 1
  have t2 := T.cell 2
  have t3 := T.cell 3
  simp only [List.getElem?_cons_zero, List.getElem?_cons_succ] at t0 t1 t2 t3
  have g0 := T.frozen 0
  have g1 := T.frozen 1
  have g2 := T.frozen 2
  have g3 := T.frozen 3
  have hzt : Z1.heap.size ≤ w6.heap.size := (Q.trans hqb (Q.trans (Below.drew (Q.refl w5)) hq6)).size
  have T2 := (((T.set 0 (.int .i64 de)).set 1 (.string ⟨#[]⟩)).set 2 (.string ⟨HI.toArray⟩)).set 3 (.string ⟨OV.toArray⟩)
  simp only [List.set_cons_zero, List.set_cons_succ] at T2
  have hqd : Q Z1 ((((w7.setCell ⟨w6.heap.size, 0, none⟩ (.int .i64 de)).setCell ⟨w6.heap.size, 1, none⟩ (.string ⟨#[]⟩)).setCell ⟨w6.heap.size, 2, none⟩ (.string ⟨HI.toArray⟩)).setCell ⟨w6.heap.size, 3, none⟩ (.string ⟨OV.toArray⟩)) :=
    (((hqc.setCell (p := ⟨w6.heap.size, 0, none⟩) hzt _).setCell (p := ⟨w6.heap.size, 1, none⟩) hzt _).setCell (p := ⟨w6.heap.size, 2, none⟩) hzt _).setCell (p := ⟨w6.heap.size, 3, none⟩) hzt _
  have v3 := T2.cell 3
  simp only [List.getElem?_cons_zero, List.getElem?_cons_succ] at v3
  clear hq6 hq7 hqc T HW hEf e10 e6 hqa hqb
  have hlz := hQ1.size
  have hwz := hwW.size
  have hne : w6.heap.size ≠ w.heap.size + 2 := by have := BZ.lt; omega
  generalize w6.heap.size = tb at *
  go_wp2_with fail
  refine (HO.out _ (hE.ofQ (Q.trans hQ1 hqd))).mono ?_
  rintro e w8 ⟨rfl, hq8⟩
  have hqe : Q Z1 w8 := Q.trans hqd hq8
  have T8 := T2.keep hq8 T2.lt
  have a2 := qcell hqe s2
  have a3 := qcell hqe s3
  clear t0 t1 t2 t3 g0 g1 g2 g3 v3 T2 hqd HO
  go_wp2_with fail
  refine (HP.out _ (hE.ofQ (Q.trans hQ1 hqe))).mono ?_
  rintro e w9 ⟨rfl, hq9⟩
  have hqf : Q Z1 w9 := Q.trans hqe hq9
  have T9 := T8.keep hq9 T8.lt
  have t0 := T9.cell 0
  have t1 := T9.cell 1
  have t2 := T9.cell 2
  have t3 := T9.cell 3
  simp only [List.getElem?_cons_zero, List.getElem?_cons_succ] at t0 t1 t2 t3
  have g1 := T9.frozen 1
  replace BZ := BlkK BZ hqf
  have z0 := BZ.cell 0
  have z1 := BZ.cell 1
  have z2 := BZ.cell 2
  have z3 := BZ.cell 3
  simp only [List.getElem?_cons_zero, List.getElem?_cons_succ] at z0 z1 z2 z3
  have y0 := BZ.frozen 0
  have y1 := BZ.frozen 1
  have y2 := BZ.frozen 2
  have y3 := BZ.frozen 3
  have hbz : w.heap.size ≤ w.heap.size + 2 := by omega
  have htz : w.heap.size ≤ tb := by omega
  have hne2 : w.heap.size + 2 ≠ tb := Ne.symm hne
  have Zf := ((((BZ.setOther hne 1 (.string ⟨PI.toArray⟩)).set 0 (.int .i64 de)).set 1 (.string ⟨PI.toArray⟩)).set 2 (.string ⟨HI.toArray⟩)).set 3 (.string ⟨OV.toArray⟩)
  simp only [List.set_cons_zero, List.set_cons_succ] at Zf
  have hQe := (((((Q.trans hwW (Q.trans hQ1 hqf)).setCell (p := ⟨tb, 1, none⟩) htz (.string ⟨PI.toArray⟩)).setCell (p := ⟨w.heap.size + 2, 0, none⟩) hbz (.int .i64 de)).setCell (p := ⟨w.heap.size + 2, 1, none⟩) hbz (.string ⟨PI.toArray⟩)).setCell (p := ⟨w.heap.size + 2, 2, none⟩) hbz (.string ⟨HI.toArray⟩)).setCell (p := ⟨w.heap.size + 2, 3, none⟩) hbz (.string ⟨OV.toArray⟩)
  clear T8 T9 a2 a3 HP hq9 hq8
  have hbe : w.heap.size + 1 + 1 = w.heap.size + 2 := rfl
  go_wp2_with (exact bodyPost_ret (results_raf Zf Tryz.f35 rfl _ rfl rfl) rfl ⟨rfl, hQe⟩)
end Go.Proofs.YtohonlboaddppaaGreatDoor
