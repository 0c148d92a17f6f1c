/-
  Walks of package integer at numbers of any length: Divide.
-/
import Derived.Test.YtohonlboaddppaaGreatDoorBO
namespace Go.Proofs.YtohonlboaddppaaGreatDoor
open Go.RowKit Kp
open Go.Lib (decDigits)
theorem fdiv_same {a b : Int} (m : Bool) (_ha : 0 ≤ a) (hb : 0 < b) : (sgn m a).fdiv (sgn m b) = a / b ∧ (sgn m a).fmod (sgn m b) = sgn m (a % b) := by
  have h := Int.emod_add_mul_ediv a b
  have h0 := Int.emod_nonneg a (show b ≠ 0 by omega)
  have h1 := Int.emod_lt_of_pos a hb
  generalize a / b = q at *
  generalize a % b = r at *
  have e : -b * q = -(b * q) := Int.neg_mul ..
  cases m <;> simp only [sgn, if_true, Bool.false_eq_true, if_false] <;> exact floor_spec (by omega) (by omega)
theorem fdiv_diff {a b : Int} (m1 m2 : Bool) (hm : (m1 != m2) = true) (_ha : 0 ≤ a) (hb : 0 < b) :
    (a % b = 0 → (sgn m1 a).fdiv (sgn m2 b) = -(a / b) ∧ (sgn m1 a).fmod (sgn m2 b) = 0) ∧ (0 < a % b → (sgn m1 a).fdiv (sgn m2 b) = -(a / b + 1) ∧ (sgn m1 a).fmod (sgn m2 b) = sgn m2 (b - a % b)) := by
  have h := Int.emod_add_mul_ediv a b
  have h0 := Int.emod_nonneg a (show b ≠ 0 by omega)
  have h1 := Int.emod_lt_of_pos a hb
  generalize a / b = q at *
  generalize a % b = r at *
  have e1 : b * -q = -(b * q) := Int.mul_neg ..
  have e2 : -b * -q = b * q := Int.neg_mul_neg ..
  have e3 : b * -(q + 1) = -(b * q) - b := by grind
  have e4 : -b * -(q + 1) = b * q + b := by grind
  cases m1 <;> cases m2 <;> simp at hm <;> simp only [sgn, if_true, Bool.false_eq_true, if_false] <;> exact ⟨fun e => floor_spec (by omega) (by omega), fun e => floor_spec (by omega) (by omega)⟩
theorem div_lt_big {a b : Int} (ha : 0 ≤ a) (hb : 0 < b) : 0 ≤ a / b ∧ a / b ≤ a ∧ (0 < a % b → a / b + 1 ≤ a) ∧ 0 ≤ a % b ∧ a % b < b := by
  have h := Int.emod_add_mul_ediv a b
  have h0 := Int.emod_nonneg a (show b ≠ 0 by omega)
  have h1 := Int.emod_lt_of_pos a hb
  have h2 : 0 ≤ a / b := Int.ediv_nonneg ha (by omega)
  have h3 : a / b ≤ a := Int.ediv_le_self _ ha
  refine ⟨h2, h3, fun h4 => ?_, h0, h1⟩
  have h5 : 1 * (a / b) ≤ b * (a / b) := Int.mul_le_mul_of_nonneg_right (by omega) h2
  omega
set_option maxRecDepth 100000 in
set_option maxHeartbeats 2000000 in
theorem integer_Divide_long (x y : Int) (hx : lim x = false) (hy : lim y = false) (hy0 : y ≠ 0) (hl : 18 < (Lib.itoa x).length ∨ 18 < (Lib.itoa y).length) (w : World) (hE : Env w) :
    Calls Tryz.prog 83 #[.string ⟨(Lib.itoa x).toArray⟩, .string ⟨(Lib.itoa y).toArray⟩] w fun e w' => e = .returned (.tuple #[.string ⟨(Lib.itoa (x.fdiv y)).toArray⟩, .string ⟨(Lib.itoa (x.fmod y)).toArray⟩, .int .i64 0]) ∧ Q w w' := by
  have hn : (Lib.itoa y == [48]) = false := by
    rw [beq_eq_false_iff_ne, ← itoa_zero]; exact fun e => hy0 (itoa_inj e)
  have HB := Lib.hid (fun w => integer_both_ok x y hx hy w)
  have HS := Lib.hid (fun w => integer_small_long _ _ hl w)
  have HX := Lib.hid (fun w => read_itoa x hx w)
  have HY := Lib.hid (fun w => read_itoa y hy w)
  have hxs := sgn_dec x
  have hys := sgn_dec y
  have hbx := (lim_false x).1 hx
  have hby := (lim_false y).1 hy
  obtain ⟨a, ha⟩ : ∃ a : Int, (x.natAbs : Int) = a := ⟨_, rfl⟩
  obtain ⟨b, hb⟩ : ∃ b : Int, (y.natAbs : Int) = b := ⟨_, rfl⟩
  have ha0 : 0 ≤ a := by omega
  have hb0 : 0 < b := by omega
  rw [ha] at hxs HX
  rw [hb] at hys HY
  have hsame := fun h : decide (x < 0) = decide (y < 0) => fdiv_same (a := a) (b := b) (decide (x < 0)) ha0 hb0
  have hdiff := fun h => fdiv_diff (a := a) (b := b) (decide (x < 0)) (decide (y < 0)) h ha0 hb0
  rw [hxs, hys] at hdiff
  have hsame2 : decide (x < 0) = decide (y < 0) → x.fdiv y = a / b ∧ x.fmod y = sgn (decide (y < 0)) (a % b) := fun h => by
    have h2 := hsame h
    rw [h, hys, ← h, hxs] at h2
    exact ⟨h2.1, by rw [← h]; exact h2.2⟩
  obtain ⟨g1, g2, g3, g4, g5⟩ := div_lt_big ha0 hb0
  have hrs : ∀ z : Int, z.natAbs < big → rsV z = .tuple #[.string ⟨(Lib.itoa z).toArray⟩, .int .i64 0] := fun z h => by unfold rsV; rw [(lim_false z).2 h]; rfl
  have hfb : (x.fdiv y).natAbs < big ∧ (x.fmod y).natAbs < big := by
    by_cases hm : decide (x < 0) = decide (y < 0)
    · have h := hsame2 hm
      rw [h.1, h.2]
      refine ⟨by omega, ?_⟩
      have : (sgn (decide (y < 0)) (a % b)).natAbs = (a % b).natAbs := by unfold sgn; split <;> omega
      omega
    · have h := hdiff (by simpa using hm)
      by_cases hr : a % b = 0
      · rw [(h.1 hr).1, (h.1 hr).2]; omega
      · rw [(h.2 (by omega)).1, (h.2 (by omega)).2]
        have := g3 (by omega)
        refine ⟨by omega, ?_⟩
        have : (sgn (decide (y < 0)) (b - a % b)).natAbs = (b - a % b).natAbs := by unfold sgn; split <;> omega
        omega
  have HL1 := Lib.hid (hrs _ hfb.1)
  have HL2 := Lib.hid (hrs _ hfb.2)
  have HSAME := Lib.hid hsame2
  have HDIFF := Lib.hid hdiff
  clear hl hx hy hxs hys hbx hby hsame hsame2 hdiff hrs hfb ha hb
  generalize decide (x < 0) = m1 at *
  generalize decide (y < 0) = m2 at *
  go_enter Tryz.func83, Tryz.ntmps83
  go_wp2_with fail
  refine (HB.out _).mono ?_
  rintro e w1 ⟨rfl, hq1⟩
  go_wp2_with fail
  refine (HS.out _).mono ?_
  rintro e w2 ⟨rfl, rfl⟩
  go_wp2_with fail
  refine (HX.out _).mono ?_
  rintro e w3 ⟨v1, rfl, hv1, hq3⟩
  go_wp2_with fail
  refine (HY.out _).mono ?_
  rintro e w4 ⟨v2, rfl, hv2, hq4⟩
  have hQ4 := Q.trans (Q.trans hq1 hq3) hq4
  have N1 := Lib.hid (hv1.keep hq4)
  have N2 := Lib.hid hv2
  obtain ⟨a1, c1, rfl, -, -⟩ := hv1.2.2
  obtain ⟨a2, c2, rfl, -, -⟩ := hv2.2.2
  generalize hn1 : (limbs LB a).length = n1 at *
  generalize hn2 : (limbs LB b).length = n2 at *
  clear hv1 hv2 hn1 hn2
  obtain ⟨W0, hW0⟩ : ∃ W0, (w4.alloc (.cells [.bool m1, .slice a1 n1 c1].toArray 123)).alloc (.cells [.bool m2, .slice a2 n2 c2].toArray 123) = W0 := ⟨_, rfl⟩
  have hq0 : Q w4 W0 := by rw [← hW0]; exact ((Below.refl _ w4).alloc (Nat.le_refl _) _).alloc (by simp) _
  have B1 : Blk W0 w4.heap.size [.bool m1, .slice a1 n1 c1] 123 := by rw [← hW0]; exact (Blk.new w4 _ _).alloc _
  have B2 : Blk W0 (w4.heap.size + 1) [.bool m2, .slice a2 n2 c2] 123 := by
    have := Blk.new (w4.alloc (.cells [.bool m1, .slice a1 n1 c1].toArray 123)) [.bool m2, .slice a2 n2 c2] 123
    rw [World.size_alloc, hW0] at this; exact this
  have d1 := B1.cell 1
  have d3 := B2.cell 1
  simp only [List.getElem?_cons_zero, List.getElem?_cons_succ] at d1 d3 hW0
  have hQ0 := Q.trans hQ4 hq0
  have HD := Lib.hid (integer_divide a b ha0 hb0 (by have := N1.out.2.1; omega) (by have := N2.out.2.1; omega) _ _ W0 (N1.out.2.2.keep hq0) (N2.out.2.2.keep hq0))
  clear HB HS HX HY
  go_wp2_with fail
  refine HD.out.mono ?_
  rintro e w5 ⟨qv, rv, rfl, hqi, hri, hq5⟩
  have hQ5 := Q.trans hQ0 hq5
  have C1 := B1.keep hq5 B1.lt
  have C2 := B2.keep hq5 B2.lt
  have NQ0 := Lib.hid (show NumOf w5 (a / b) qv from ⟨g1, by have := limbs_len_lt_of (x := a / b) (y := a) ha0 g2; have := N1.out.2.1; omega, hqi⟩)
  have NR0 := Lib.hid (show NumOf w5 (a % b) rv from ⟨g4, by have := limbs_len_lt_of (x := a % b) (y := b) (by omega) (by omega); have := N2.out.2.1; omega, hri⟩)
  obtain ⟨aq, cq, rfl, -, -⟩ := hqi
  obtain ⟨ar, cr, rfl, -, -⟩ := hri
  have hr0 := limbs_len_zero g4
  generalize hnq : (limbs LB (a / b)).length = nq at *
  generalize hnr : (limbs LB (a % b)).length = nr at *
  clear hnq hnr HD d1 d3 hW0
  have s0 := C1.cell 0
  have s1 := C2.cell 0
  simp only [List.getElem?_cons_zero] at s0 s1
  by_cases hm : m1 = m2
  · subst hm
    have hmb : (m1 == m1) = true := by simp
    have hmn : (m1 != m1) = false := by simp
    have HQE : Hid (sgn false (a / b) = x.fdiv y) := Lib.hid (by rw [(HSAME.out rfl).1]; rfl)
    have HRE : Hid (sgn m1 (a % b) = x.fmod y) := Lib.hid (by rw [(HSAME.out rfl).2])
    clear hr0
    have n1 := NQ0.out
    have n2 := NR0.out
    have hQE := HQE.out
    have hRE := HRE.out
    have HRq : Hid (∀ W, Q w5 W → Calls Tryz.prog 88 #[.agg #[.bool false, (.slice aq nq cq)]] W fun e w' => e = .returned (.tuple #[.string ⟨(Lib.itoa (x.fdiv y)).toArray⟩, .int .i64 0]) ∧ Q W w') := Lib.hid (fun W hW => by
      have h := integer_result false _ (.slice aq nq cq) W (hE.q (Q.trans hQ5 hW)) (n1.keep hW)
      rw [hQE, HL1.out] at h
      exact h)
    have HRr : Hid (∀ W, Q w5 W → Calls Tryz.prog 88 #[.agg #[.bool m1, (.slice ar nr cr)]] W fun e w' => e = .returned (.tuple #[.string ⟨(Lib.itoa (x.fmod y)).toArray⟩, .int .i64 0]) ∧ Q W w') := Lib.hid (fun W hW => by
      have h := integer_result m1 _ (.slice ar nr cr) W (hE.q (Q.trans hQ5 hW)) (n2.keep hW)
      rw [hRE, HL2.out] at h
      exact h)
    have t0 := C1.cell 0
    have t1 := C2.cell 0
    simp only [List.getElem?_cons_zero] at t0 t1
    clear n1 n2 hQE hRE
    go_wp2_with fail
    refine (HRq.out _ (Q.refl _)).mono ?_
    rintro e w7 ⟨rfl, hq7⟩
    have t2 := qcell hq7 t1
    clear t0 t1
    go_wp2_with fail
    refine (HRr.out _ hq7).mono ?_
    rintro e w8 ⟨rfl, hq8⟩
    have hQ8 := Q.trans hQ5 (Q.trans hq7 hq8)
    clear HRq HRr t2
    go_wp2
    go_ret3
    exact ⟨rfl, hQ8⟩
  · have hmn : (m1 != m2) = true := by simpa using hm
    have hme : (m1 == m2) = false := by simpa using hm
    by_cases hrz : nr = 0
    · have hz := hr0.1 hrz
      have HQE : Hid (sgn true (a / b) = x.fdiv y) := Lib.hid (by rw [((HDIFF.out hmn).1 hz).1]; rfl)
      have HRE : Hid (sgn m2 (a % b) = x.fmod y) := Lib.hid (by rw [((HDIFF.out hmn).1 hz).2, hz]; cases m2 <;> rfl)
      subst hrz
      clear hr0 hz hm
      have n1 := NQ0.out
      have n2 := NR0.out
      have hQE := HQE.out
      have hRE := HRE.out
      have HRq : Hid (∀ W, Q w5 W → Calls Tryz.prog 88 #[.agg #[.bool true, (.slice aq nq cq)]] W fun e w' => e = .returned (.tuple #[.string ⟨(Lib.itoa (x.fdiv y)).toArray⟩, .int .i64 0]) ∧ Q W w') := Lib.hid (fun W hW => by
        have h := integer_result true _ (.slice aq nq cq) W (hE.q (Q.trans hQ5 hW)) (n1.keep hW)
        rw [hQE, HL1.out] at h
        exact h)
      have HRr : Hid (∀ W, Q w5 W → Calls Tryz.prog 88 #[.agg #[.bool m2, (.slice ar 0 cr)]] W fun e w' => e = .returned (.tuple #[.string ⟨(Lib.itoa (x.fmod y)).toArray⟩, .int .i64 0]) ∧ Q W w') := Lib.hid (fun W hW => by
        have h := integer_result m2 _ (.slice ar 0 cr) W (hE.q (Q.trans hQ5 hW)) (n2.keep hW)
        rw [hRE, HL2.out] at h
        exact h)
      have t0 := C1.cell 0
      have t1 := C2.cell 0
      simp only [List.getElem?_cons_zero] at t0 t1
      clear n1 n2 hQE hRE
      go_wp2_with fail
      refine (HRq.out _ (Q.refl _)).mono ?_
      rintro e w7 ⟨rfl, hq7⟩
      have t2 := qcell hq7 t1
      clear t0 t1
      go_wp2_with fail
      refine (HRr.out _ hq7).mono ?_
      rintro e w8 ⟨rfl, hq8⟩
      have hQ8 := Q.trans hQ5 (Q.trans hq7 hq8)
      clear HRq HRr t2
      go_wp2
      go_ret3
      exact ⟨rfl, hQ8⟩
    · have hz : 0 < a % b := by
        by_cases h : a % b = 0
        · exact absurd (hr0.2 h) hrz
        · omega
      have hnr : (0 : Int) < (nr : Int) := by omega
      have HQE : Hid (sgn true (a / b + 1) = x.fdiv y) := Lib.hid (by rw [((HDIFF.out hmn).2 hz).1]; rfl)
      have HRE : Hid (sgn m2 (b - a % b) = x.fmod y) := Lib.hid (by rw [((HDIFF.out hmn).2 hz).2])
      clear hr0 hm hrz
      have d3 := C2.drew.cell 1
      simp only [List.getElem?_cons_zero, List.getElem?_cons_succ] at d3
      have hg3 := g3 hz
      clear hz
      have HC1 : Hid (∀ W v, Q w5 W → IntSl W v [1] → Calls Tryz.prog 94 #[.slice aq nq cq, v, .func (.func 95) #[] #[]] W fun e w' => ∃ v', e = .returned v' ∧ IntSl w' v' (limbs LB (a / b + 1)) ∧ Q W w') := Lib.hid (fun W v hW hv => by
        have h := combine_plus (limbs LB (a / b)) [1] (limbs_dig (by decide) _) (Dig.one (by decide) (by decide)) (by have := NQ0.out.2.1; omega) (by simp) _ _ W (NQ0.out.2.2.keep hW) hv
        rw [lval_limbs (by decide) _ g1, show lval LB [1] = 1 from rfl] at h
        exact h)
      have HC2 : Hid (∀ W, Q w5 W → Calls Tryz.prog 94 #[.slice a2 n2 c2, .slice ar nr cr, .func (.func 97) #[] #[]] W fun e w' => ∃ v', e = .returned v' ∧ IntSl w' v' (limbs LB (b - a % b)) ∧ Q W w') := Lib.hid (fun W hW => by
        have h := combine_minus (limbs LB b) (limbs LB (a % b)) (limbs_dig (by decide) _) (limbs_dig (by decide) _) (by have := N2.out.2.1; omega) (by have := NR0.out.2.1; omega) (by rw [lval_limbs (by decide) _ g4, lval_limbs (by decide) _ (by omega)]; omega) _ _ W (N2.out.2.2.keep (Q.trans hq0 (Q.trans hq5 hW))) (NR0.out.2.2.keep hW)
        rw [lval_limbs (by decide) _ g4, lval_limbs (by decide) _ (by omega)] at h
        exact h)
      go_wp2_with fail
      refine wp_steadily 9 rfl (by kernel_rfl) rfl ?_
      refine svp 0 ?_
      refine svp 3 ?_
      refine svq 4 rfl (by intro w' hq; have hc0 := qcell hq d3; go_simp; try with_reducible rfl) ?_
      refine svp 5 ?_
      refine steadily_make (i := 1) (fun w' => .slice (some ⟨w'.heap.size, 0, none⟩) 1 1) (.cells #[.int .i64 1] 3) rfl rfl (by kernel_rfl) (by rfl) (fun w' hq => ?_) (fun w6 hq6 => ?_)
      · go_simp
      simp only [Act.put, List.setIfInBounds_toArray, List.set_cons_zero, List.set_cons_succ]
      have hs1 := Lib.hid (intSl_one w6 1)
      have hq56 : Q w5 (w6.alloc (.cells #[.int .i64 1] 3)) := Q.trans (Below.trans (Below.drew (Q.refl w5)) hq6) ((Below.refl _ w6).alloc (Nat.le_refl _) _)
      refine steadily_only (i := 2) rfl rfl (by kernel_rfl) (by rfl) ?_ (fun w' hq => (HC1.out w' _ (Q.trans hq56 hq) (hs1.out.keep hq)).mono ?_)
      · (intro w' hq; go_simp; try with_reducible rfl)
      rintro e w7 ⟨qv, rfl, hqi, hq7⟩
      refine ⟨_, rfl, hq7, ?_⟩
      simp only [Act.put, List.setIfInBounds_toArray, List.set_cons_zero, List.set_cons_succ]
      have hq57 := Q.trans hq56 (Q.trans hq hq7)
      refine steadily_only (i := 6) rfl rfl (by kernel_rfl) (by rfl) ?_ (fun w' hq => (HC2.out w' (Q.trans hq57 hq)).mono ?_)
      · (intro w' hq; go_simp; try with_reducible rfl)
      rintro e w8 ⟨rv, rfl, hri, hq8⟩
      refine ⟨_, rfl, hq8, ?_⟩
      simp only [Act.put, List.setIfInBounds_toArray, List.set_cons_zero, List.set_cons_succ]
      refine svp 7 ?_
      refine svp 8 ?_
      refine steadily_done (by kernel_rfl) (fun w9 hq9 => ?_)
      simp only [List.drop_succ_cons, List.drop_nil]
      have hq59 : Q w5 w9 := Q.trans hq57 (Q.trans (Q.trans ‹Q w7 _› hq8) hq9)
      have hq79 : Q w7 w9 := Q.trans (Q.trans ‹Q w7 _› hq8) hq9
      have NQ1 := Lib.hid (show NumOf w9 (a / b + 1) qv from ⟨by omega, by have := limbs_len_lt_of (x := a / b + 1) (y := a) ha0 hg3; have := N1.out.2.1; omega, hqi.keep hq79⟩)
      have NR1 := Lib.hid (show NumOf w9 (b - a % b) rv from ⟨by omega, by have := limbs_len_lt_of (x := b - a % b) (y := b) (by omega) (by omega); have := N2.out.2.1; omega, hri.keep hq9⟩)
      have hQ9 := Q.trans hQ5 hq59
      have E1 := C1.keep hq59 C1.lt
      have E2 := C2.keep hq59 C2.lt
      obtain ⟨aq', cq', rfl, -, -⟩ := hqi
      obtain ⟨ar', cr', rfl, -, -⟩ := hri
      generalize hnq' : (limbs LB (a / b + 1)).length = nq' at *
      generalize hnr' : (limbs LB (b - a % b)).length = nr' at *
      clear hnq' hnr' HC1 HC2 d3 s0 s1
      have n1 := NQ1.out
      have n2 := NR1.out
      have hQE := HQE.out
      have hRE := HRE.out
      have HRq : Hid (∀ W, Q w9 W → Calls Tryz.prog 88 #[.agg #[.bool true, (.slice aq' nq' cq')]] W fun e w' => e = .returned (.tuple #[.string ⟨(Lib.itoa (x.fdiv y)).toArray⟩, .int .i64 0]) ∧ Q W w') := Lib.hid (fun W hW => by
        have h := integer_result true _ (.slice aq' nq' cq') W (hE.q (Q.trans hQ9 hW)) (n1.keep hW)
        rw [hQE, HL1.out] at h
        exact h)
      have HRr : Hid (∀ W, Q w9 W → Calls Tryz.prog 88 #[.agg #[.bool m2, (.slice ar' nr' cr')]] W fun e w' => e = .returned (.tuple #[.string ⟨(Lib.itoa (x.fmod y)).toArray⟩, .int .i64 0]) ∧ Q W w') := Lib.hid (fun W hW => by
        have h := integer_result m2 _ (.slice ar' nr' cr') W (hE.q (Q.trans hQ9 hW)) (n2.keep hW)
        rw [hRE, HL2.out] at h
        exact h)
      have t0 := E1.cell 0
      have t1 := E2.cell 0
      simp only [List.getElem?_cons_zero] at t0 t1
      clear n1 n2 hQE hRE
      go_wp2_with fail
      refine (HRq.out _ (Q.refl _)).mono ?_
      rintro e w7 ⟨rfl, hq7⟩
      have t2 := qcell hq7 t1
      clear t0 t1
      go_wp2_with fail
      refine (HRr.out _ hq7).mono ?_
      rintro e w8 ⟨rfl, hq8⟩
      have hQ8 := Q.trans hQ9 (Q.trans hq7 hq8)
      clear HRq HRr t2
      go_wp2
      go_ret3
      exact ⟨rfl, hQ8⟩
theorem integer_Divide (x y : Int) (hx : lim x = false) (hy : lim y = false) (hy0 : y ≠ 0) (w : World) (hE : Env w) :
    Calls Tryz.prog 83 #[.string ⟨(Lib.itoa x).toArray⟩, .string ⟨(Lib.itoa y).toArray⟩] w fun e w' => e = .returned (.tuple #[.string ⟨(Lib.itoa (x.fdiv y)).toArray⟩, .string ⟨(Lib.itoa (x.fmod y)).toArray⟩, .int .i64 0]) ∧ Q w w' := by
  by_cases hl : 18 < (Lib.itoa x).length ∨ 18 < (Lib.itoa y).length
  · exact integer_Divide_long x y hx hy hy0 hl w hE
  · exact integer_Divide_short x y (by omega) (by omega) hy0 w hE
end Go.Proofs.YtohonlboaddppaaGreatDoor
