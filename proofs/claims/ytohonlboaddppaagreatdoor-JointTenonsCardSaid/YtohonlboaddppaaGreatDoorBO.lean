/-
  Walks of package integer at numbers of any length: result, Add, Sub, Mul.; Walks of package integer at numbers of any length: Mul, Sub, Compare.; Walks of package integer at numbers of any length: Compare, Gcd, Divide.
-/
import Derived.Test.YtohonlboaddppaaGreatDoorBM
import Derived.Test.YtohonlboaddppaaGreatDoorWB
namespace Go.Proofs.YtohonlboaddppaaGreatDoor
open Go.RowKit Kp
open Go.Lib (decDigits)
theorem big_le : (big : Int) ≤ LB ^ 34 := by
  obtain ⟨m, hm⟩ : ∃ m : Nat, m = 9 := ⟨_, rfl⟩
  obtain ⟨n, hn⟩ : ∃ n : Nat, n = 34 := ⟨_, rfl⟩
  have h : (LB : Int) ^ n = ((10 ^ (m * n) : Nat) : Int) := by
    rw [Nat.pow_mul, Int.natCast_pow, show (LB : Int) = ((10 ^ m : Nat) : Int) by rw [hm]; decide]
  rw [← hn, h]
  unfold big
  exact Int.ofNat_le.2 (Nat.pow_le_pow_right (by decide) (by rw [maxD_eq, hm, hn]; decide))
theorem lim_lt {x : Int} (h : lim x = false) : (x.natAbs : Int) < LB ^ 34 := by
  have h1 := (lim_false x).1 h
  have h2 := big_le
  omega
theorem pow_step (k : Nat) : LB ^ (k + 1) = LB ^ k * LB ∧ 0 < LB ^ k := ⟨Int.pow_succ .., Int.pow_pos (by decide)⟩
theorem len_of {z : Int} {k : Nat} (h : z < LB ^ k) : (limbs LB z).length ≤ k := limbs_len_le (by decide) k z h
theorem NumOf.keep {w w' : World} {z : Int} {v : Value} (h : NumOf w z v) (hq : Q w w') : NumOf w' z v := ⟨h.1, h.2.1, h.2.2.keep hq⟩
theorem lim_of_lt {z : Int} (h : z.natAbs < 10 ^ 40) : lim z = false := by
  rw [lim_false]
  unfold big
  exact Nat.lt_of_lt_of_le h (Nat.pow_le_pow_right (by decide) (by rw [maxD_eq]; decide))
theorem read_itoa (x : Int) (hx : lim x = false) (w : World) :
    Calls Tryz.prog 56 #[.string ⟨(Lib.itoa x).toArray⟩] w fun e w' => ∃ v, e = .returned (.agg #[.bool (decide (x < 0)), v]) ∧ NumOf w' x.natAbs v ∧ Q w w' := by
  refine (integer_read (Lib.itoa x) (decDigits x.natAbs) (unsig_itoa x) (decDigits_dig _) (by have := itoa_len x hx; omega) w).mono ?_
  rintro e w' ⟨v, rfl, hi, hq⟩
  have hd : decide ((Lib.itoa x).head? = some 45) = decide (x < 0) := by
    rw [decide_eq_decide]
    by_cases h : x < 0
    · rw [itoa_neg h]; simp [h]
    · rw [itoa_nonneg (by omega)]
      exact ⟨fun e => absurd e (decDigits_head_ne_minus _), fun e => absurd e h⟩
  rw [nval_decDigits] at hi
  exact ⟨v, by rw [hd], ⟨by omega, by have := len_of (lim_lt hx); omega, hi⟩, hq⟩
def rsV (z : Int) : Value := if lim z then .tuple #[.string ⟨#[]⟩, .int .i64 4] else .tuple #[.string ⟨(Lib.itoa z).toArray⟩, .int .i64 0]
set_option maxHeartbeats 400000 in
theorem integer_result (mi : Bool) (z : Int) (v : Value) (w : World) (hE : Env w) (h1 : NumOf w z v) :
    Calls Tryz.prog 88 #[.agg #[.bool mi, v]] w fun e w' => e = .returned (rsV (sgn mi z)) ∧ Q w w' := by
  obtain ⟨w0, hw0⟩ : ∃ w0, w.alloc (.cells [.bool mi, v].toArray 123) = w0 := ⟨_, rfl⟩
  have X0 : Blk w0 w.heap.size [.bool mi, v] 123 := by rw [← hw0]; exact Blk.new w _ _
  have hq0 : Q w w0 := by rw [← hw0]; exact (Below.refl _ w).alloc (Nat.le_refl _) _
  have HW := Lib.hid (integer_write mi z v w0 (hE.q hq0) (h1.keep hq0))
  have hl1 : (unsig (Lib.itoa (sgn mi z))).length ≤ 300 ↔ lim (sgn mi z) = false := by
    rw [unsig_itoa, lim_false]; unfold big; rw [maxD_eq]; exact decDigits_len_le _ 300 (by decide)
  obtain ⟨a, c, rfl, -, -⟩ := h1.2.2
  generalize (limbs LB z).length = ln at *
  have x0 := X0.cell 0
  have x1 := X0.cell 1
  simp only [List.getElem?_cons_zero, List.getElem?_cons_succ] at x0 x1 hw0
  by_cases hl : lim (sgn mi z) = true
  · have hr : rsV (sgn mi z) = .tuple #[.string ⟨#[]⟩, .int .i64 4] := by unfold rsV; rw [if_pos hl]
    rw [hr]
    have h3 : 300 < (unsig (Lib.itoa (sgn mi z))).length := by
      rw [hl] at hl1; simp at hl1; exact hl1
    clear hl hr hl1 h1
    go_enter Tryz.func88, Tryz.ntmps88
    go_wp2_with fail
    refine HW.out.mono ?_
    rintro e w1 ⟨rfl, hq1⟩
    go_wp2_with fail
    refine (lib_TrimMinus _ _).mono ?_
    rintro e w2 ⟨rfl, rfl⟩
    generalize unsig (Lib.itoa (sgn mi z)) = t at *
    have h3i : (300 : Int) < (t.length : Int) := by omega
    go_wp2
    go_ret2
    exact ⟨rfl, Q.trans hq0 hq1⟩
  · have hl' : lim (sgn mi z) = false := by simpa using hl
    have hr : rsV (sgn mi z) = .tuple #[.string ⟨(Lib.itoa (sgn mi z)).toArray⟩, .int .i64 0] := by unfold rsV; rw [if_neg hl]
    rw [hr]
    have h3 : (unsig (Lib.itoa (sgn mi z))).length ≤ 300 := hl1.2 hl'
    clear hl hr hl1 h1 hl'
    go_enter Tryz.func88, Tryz.ntmps88
    go_wp2_with fail
    refine HW.out.mono ?_
    rintro e w1 ⟨rfl, hq1⟩
    go_wp2_with fail
    refine (lib_TrimMinus _ _).mono ?_
    rintro e w2 ⟨rfl, rfl⟩
    generalize unsig (Lib.itoa (sgn mi z)) = t at *
    have h3i : (t.length : Int) ≤ 300 := by omega
    go_wp2
    go_ret2
    exact ⟨rfl, Q.trans hq0 hq1⟩
set_option maxHeartbeats 400000 in
theorem integer_small_long (a b : Str) (h : 18 < a.length ∨ 18 < b.length) (w : World) :
    Calls Tryz.prog 55 #[.string ⟨a.toArray⟩, .string ⟨b.toArray⟩, .int .i64 18] w fun e w' => e = .returned (.tuple #[.int .i64 0, .int .i64 0, .bool false]) ∧ w = w' := by
  by_cases h1 : 18 < a.length
  · have h1i : (18 : Int) < (a.length : Int) := by omega
    go_enter Tryz.func55, Tryz.ntmps55
    go_wp2
    go_ret3
    exact ⟨rfl, rfl⟩
  · have h1i : (a.length : Int) ≤ 18 := by omega
    have h2i : (18 : Int) < (b.length : Int) := by omega
    have hd : decide ((18 : Int) < (a.length : Int)) = false := by simp; omega
    go_enter Tryz.func55, Tryz.ntmps55
    go_wp2
    go_ret3
    exact ⟨rfl, rfl⟩
theorem sgn_dec (x : Int) : sgn (decide (x < 0)) x.natAbs = x := by
  unfold sgn
  by_cases h : x < 0 <;> simp [h] <;> omega
theorem numOf_of {w : World} {m : Bool} {z s : Int} {v : Value} (h : sgn m z = s) (h0 : 0 ≤ z) (hi : IntSl w v (limbs LB z)) (k : Nat) (hk : k ≤ 50000) (hs : (s.natAbs : Int) < LB ^ k) : NumOf w z v := by
  have : z = s.natAbs := by unfold sgn at h; split at h <;> omega
  exact ⟨h0, by rw [this]; have := len_of hs; omega, hi⟩
set_option maxHeartbeats 400000 in
theorem integer_Add_long (x y : Int) (hx : lim x = false) (hy : lim y = false) (hl : 18 < (Lib.itoa x).length ∨ 18 < (Lib.itoa y).length) (w : World) (hE : Env w) :
    Calls Tryz.prog 70 #[.string ⟨(Lib.itoa x).toArray⟩, .string ⟨(Lib.itoa y).toArray⟩] w fun e w' => e = .returned (rsV (x + y)) ∧ Q w w' := by
  have hx1 := lim_lt hx
  have hy1 := lim_lt hy
  have hs : ((x + y).natAbs : Int) < LB ^ 35 := by
    have h := pow_step 34
    have h1 : LB ^ 35 = LB ^ 34 * LB := h.1
    have h2 := Int.mul_le_mul_of_nonneg_left (show (2 : Int) ≤ LB by decide) (Int.le_of_lt h.2)
    omega
  have HB := Lib.hid (fun w => integer_both_ok x y hx hy w)
  have HS := Lib.hid (fun w => integer_small_long _ _ hl w)
  have HX := Lib.hid (fun w => read_itoa x hx w)
  have HY := Lib.hid (fun w => read_itoa y hy w)
  have HH := Lib.hid hs
  clear hs hx1 hy1 hl
  have HM := Lib.hid (show sgn (decide (x < 0)) x.natAbs + sgn (decide (y < 0)) y.natAbs = x + y by rw [sgn_dec, sgn_dec])
  generalize decide (x < 0) = m1 at *
  generalize decide (y < 0) = m2 at *
  go_enter Tryz.func70, Tryz.ntmps70
  go_wp2_with fail
  refine (HB.out _).mono ?_
  rintro e w1 ⟨rfl, hq1⟩
  go_wp2_with fail
  refine (HS.out _).mono ?_
  rintro e w2 ⟨rfl, rfl⟩
  go_wp2_with fail
  refine (HX.out _).mono ?_
  rintro e w3 ⟨v1, rfl, hv1, hq3⟩
  go_wp2_with fail
  refine (HY.out _).mono ?_
  rintro e w4 ⟨v2, rfl, hv2, hq4⟩
  go_wp2_with fail
  refine (integer_add m1 m2 _ _ _ _ _ (hv1.keep hq4) hv2).mono ?_
  rintro e w5 ⟨m, z, v, rfl, hm, hz, hi, hq5⟩
  rw [HM.out] at hm
  have hQ5 := Q.trans (Q.trans (Q.trans hq1 hq3) hq4) hq5
  have hR := integer_result m z v w5 (hE.q hQ5) (numOf_of hm hz hi 35 (by decide) HH.out)
  rw [hm] at hR
  have HR := Lib.hid hR
  clear hR hm hi hv1 hv2
  go_wp2_with fail
  refine HR.out.mono ?_
  rintro e w6 ⟨rfl, hq6⟩
  have hQ6 := Q.trans hQ5 hq6
  unfold rsV
  by_cases hlz : lim (x + y) = true
  · rw [if_pos hlz]
    have HZ := Lib.hid hlz
    clear hlz
    go_wp2
    go_ret2
    exact ⟨by unfold rsV; rw [if_pos HZ.out]; rfl, hQ6⟩
  · rw [if_neg hlz]
    have HZ := Lib.hid hlz
    clear hlz
    go_wp2
    go_ret2
    exact ⟨by unfold rsV; rw [if_neg HZ.out]; rfl, hQ6⟩
theorem integer_Add (x y : Int) (hx : lim x = false) (hy : lim y = false) (w : World) (hE : Env w) :
    Calls Tryz.prog 70 #[.string ⟨(Lib.itoa x).toArray⟩, .string ⟨(Lib.itoa y).toArray⟩] w fun e w' => e = .returned (rsV (x + y)) ∧ Q w w' := by
  by_cases hl : 18 < (Lib.itoa x).length ∨ 18 < (Lib.itoa y).length
  · exact integer_Add_long x y hx hy hl w hE
  · have hx2 := short_abs (x := x) (by omega)
    have hy2 := short_abs (x := y) (by omega)
    have : rsV (x + y) = .tuple #[.string ⟨(Lib.itoa (x + y)).toArray⟩, .int .i64 0] := by
      unfold rsV; rw [lim_of_lt (by omega)]; rfl
    rw [this]
    exact integer_Add_short x y (by omega) (by omega) w hE
end Go.Proofs.YtohonlboaddppaaGreatDoor
namespace Go.Proofs.YtohonlboaddppaaGreatDoor
open Go.RowKit Kp
open Go.Lib (decDigits)
theorem lim_mul {x y : Int} (hx : lim x = false) (hy : lim y = false) : ((x * y).natAbs : Int) < LB ^ 68 := by
  have hx1 := lim_lt hx
  have hy1 := lim_lt hy
  have e : LB ^ 68 = LB ^ 34 * LB ^ 34 := by rw [← Int.pow_add]
  have hp : (0 : Int) < LB ^ 34 := Int.pow_pos (by decide)
  rw [e, Int.natAbs_mul, Int.natCast_mul]
  generalize LB ^ 34 = P at *
  have h1 : (x.natAbs : Int) * (y.natAbs : Int) ≤ (x.natAbs : Int) * P := Int.mul_le_mul_of_nonneg_left (by omega) (by omega)
  have h2 : (x.natAbs : Int) * P < P * P := Int.mul_lt_mul_of_pos_right hx1 hp
  omega
theorem sgn_mul (m1 m2 : Bool) (a b : Int) : sgn (m1 != m2) (a * b) = sgn m1 a * sgn m2 b := by
  unfold sgn; cases m1 <;> cases m2 <;> simp <;> grind
set_option maxRecDepth 100000 in
set_option maxHeartbeats 1000000 in
theorem integer_Mul_long (x y : Int) (hx : lim x = false) (hy : lim y = false) (hl : 18 < (Lib.itoa x).length + (Lib.itoa y).length) (w : World) (hE : Env w) :
    Calls Tryz.prog 53 #[.string ⟨(Lib.itoa x).toArray⟩, .string ⟨(Lib.itoa y).toArray⟩] w fun e w' => e = .returned (rsV (x * y)) ∧ Q w w' := by
  have HB := Lib.hid (fun w => integer_both_ok x y hx hy w)
  have HX := Lib.hid (fun w => read_itoa x hx w)
  have HY := Lib.hid (fun w => read_itoa y hy w)
  have HH := Lib.hid (lim_mul hx hy)
  have hsg := sgn_mul (decide (x < 0)) (decide (y < 0)) x.natAbs y.natAbs
  rw [sgn_dec, sgn_dec] at hsg
  have HM := Lib.hid hsg
  have hli : (18 : Int) < ((Lib.itoa x).length : Int) + ((Lib.itoa y).length : Int) := by omega
  have hlx := itoa_len x hx
  have hly := itoa_len y hy
  have hd18 : decide (((Lib.itoa x).length : Int) + ((Lib.itoa y).length : Int) ≤ 18) = false := by simp; omega
  clear hsg hx hy
  generalize decide (x < 0) = m1 at *
  generalize decide (y < 0) = m2 at *
  obtain ⟨mm, hmm⟩ : ∃ mm, (m1 != m2) = mm := ⟨_, rfl⟩
  have hmm2 : (m1 == m2) = !mm := by rw [← hmm]; cases m1 <;> cases m2 <;> rfl
  rw [hmm] at HM
  go_enter Tryz.func53, Tryz.ntmps53
  go_wp2_with fail
  refine (HB.out _).mono ?_
  rintro e w1 ⟨rfl, hq1⟩
  go_wp2_with fail
  refine (HX.out _).mono ?_
  rintro e w3 ⟨v1, rfl, hv1, hq3⟩
  go_wp2_with fail
  refine (HY.out _).mono ?_
  rintro e w4 ⟨v2, rfl, hv2, hq4⟩
  have hQ4 := Q.trans (Q.trans hq1 hq3) hq4
  have N1 := Lib.hid (hv1.keep hq4)
  have N2 := Lib.hid hv2
  obtain ⟨a1, c1, rfl, -, -⟩ := hv1.2.2
  obtain ⟨a2, c2, rfl, -, -⟩ := hv2.2.2
  generalize hn1 : (limbs LB (x.natAbs : Int)).length = n1 at *
  generalize hn2 : (limbs LB (y.natAbs : Int)).length = n2 at *
  clear hv1 hv2 hn1 hn2
  obtain ⟨W0, hW0⟩ : ∃ W0, (w4.alloc (.cells [.bool m1, .slice a1 n1 c1].toArray 123)).alloc (.cells [.bool m2, .slice a2 n2 c2].toArray 123) = W0 := ⟨_, rfl⟩
  have hq0 : Q w4 W0 := by rw [← hW0]; exact ((Below.refl _ w4).alloc (Nat.le_refl _) _).alloc (by simp) _
  have B1 : Blk W0 w4.heap.size [.bool m1, .slice a1 n1 c1] 123 := by rw [← hW0]; exact (Blk.new w4 _ _).alloc _
  have B2 : Blk W0 (w4.heap.size + 1) [.bool m2, .slice a2 n2 c2] 123 := by
    have := Blk.new (w4.alloc (.cells [.bool m1, .slice a1 n1 c1].toArray 123)) [.bool m2, .slice a2 n2 c2] 123
    rw [World.size_alloc, hW0] at this; exact this
  have d0 := B1.drew.cell 0
  have d1 := B1.drew.cell 1
  have d2 := B2.drew.cell 0
  have d3 := B2.drew.cell 1
  simp only [List.getElem?_cons_zero, List.getElem?_cons_succ] at d0 d1 d2 d3 hW0
  have hQ0 := Q.trans hQ4 hq0
  have HC : Hid (∀ W, Q W0 W → Calls Tryz.prog 89 #[.slice a1 n1 c1, .slice a2 n2 c2] W fun e w' => ∃ v', e = .returned v' ∧ IntSl w' v' (limbs LB ((x.natAbs : Int) * y.natAbs)) ∧ Q W w') := Lib.hid (fun W hW => by
    have hqW := Q.trans hq0 hW
    have h := integer_times (limbs LB x.natAbs) (limbs LB y.natAbs) (limbs_dig (by decide) _) (limbs_dig (by decide) _) (by have := N1.out.2.1; omega) (by have := N2.out.2.1; omega) _ _ W (N1.out.2.2.keep hqW) (N2.out.2.2.keep hqW)
    rw [lval_limbs (by decide) _ (by omega), lval_limbs (by decide) _ (by omega)] at h
    exact h)
  have HRs : Hid (∀ W v, Q W0 W → IntSl W v (limbs LB ((x.natAbs : Int) * y.natAbs)) → Calls Tryz.prog 88 #[.agg #[.bool mm, v]] W fun e w' => e = .returned (rsV (x * y)) ∧ Q W w') := Lib.hid (fun W v hW hi => by
    have hm0 : (0 : Int) ≤ (x.natAbs : Int) * y.natAbs := Int.mul_nonneg (by omega) (by omega)
    have h := integer_result mm ((x.natAbs : Int) * y.natAbs) v W (hE.q (Q.trans hQ0 hW)) (numOf_of HM.out hm0 hi 68 (by decide) HH.out)
    rw [HM.out] at h
    exact h)
  clear HX HY HB
  go_wp2_with fail
  refine wp_steadily 16 rfl (by kernel_rfl) rfl ?_
  refine svp 0 ?_
  refine svq 1 rfl (by intro w' hq; have hc0 := qcell hq d0; go_simp; try with_reducible rfl) ?_
  refine svp 2 ?_
  refine svq 3 rfl (by intro w' hq; have hc0 := qcell hq d2; go_simp; try with_reducible rfl) ?_
  refine svp 4 ?_
  refine svp 5 ?_
  refine svq 6 rfl (by intro w' hq; have hc0 := qcell hq d1; go_simp; try with_reducible rfl) ?_
  refine svp 7 ?_
  refine svq 8 rfl (by intro w' hq; have hc0 := qcell hq d3; go_simp; try with_reducible rfl) ?_
  refine steadily_only (i := 9) rfl rfl (by kernel_rfl) (by rfl) ?_ (fun w' hq => (HC.out w' (Below.trans (Below.drew (Q.refl W0)) hq)).mono ?_)
  · (intro w' hq; go_simp; try with_reducible rfl)
  rintro e w5 ⟨v', rfl, hs, hq5⟩
  have HS := Lib.hid hs
  obtain ⟨a3, c3, rfl, -, -⟩ := hs
  generalize hn3 : (limbs LB ((x.natAbs : Int) * y.natAbs)).length = n3 at *
  have HN3 := Lib.hid hn3
  clear hn3
  refine ⟨_, rfl, hq5, ?_⟩
  simp only [Act.put, List.setIfInBounds_toArray, List.set_cons_zero, List.set_cons_succ]
  have hq05 : Q W0 w5 := Q.trans (Below.trans (Below.drew (Q.refl W0)) hq) hq5
  refine svp 10 ?_
  by_cases hlz : lim (x * y) = true
  · have HZ := Lib.hid hlz
    have HR2 : Hid (∀ W, Q w5 W → Calls Tryz.prog 88 #[.agg #[.bool mm, .slice a3 n3 c3]] W fun e w' => e = .returned (.tuple #[.string ⟨#[]⟩, .int .i64 4]) ∧ Q W w') := Lib.hid (fun W hW => by
      have h := HRs.out W (.slice a3 n3 c3) (Q.trans hq05 hW) (HS.out.keep hW)
      unfold rsV at h; rw [if_pos HZ.out] at h; exact h)
    clear hlz
    refine steadily_call (i := 11) (v := _) rfl rfl (by kernel_rfl) (by kernel_rfl) (fun _ _ _ h => h) (by rfl) ?_ (fun w' hq => HR2.out w' hq) ?_
    · (intro w' hq; go_simp; try with_reducible rfl)
    simp only [Act.put, List.setIfInBounds_toArray, List.set_cons_zero, List.set_cons_succ]
    refine svp 12 ?_
    refine svp 13 ?_
    refine svp 14 ?_
    refine svp 15 ?_
    refine steadily_done (by kernel_rfl) (fun w6 hq6 => ?_)
    simp only [List.drop_succ_cons, List.drop_nil]
    have hQ6 := Q.trans (Q.trans hQ0 hq05) hq6
    clear HRs HR2 HC
    go_wp2
    go_ret2
    exact ⟨by unfold rsV; rw [if_pos HZ.out]; rfl, hQ6⟩
  · have HZ := Lib.hid hlz
    have HR2 : Hid (∀ W, Q w5 W → Calls Tryz.prog 88 #[.agg #[.bool mm, .slice a3 n3 c3]] W fun e w' => e = .returned (.tuple #[.string ⟨(Lib.itoa (x * y)).toArray⟩, .int .i64 0]) ∧ Q W w') := Lib.hid (fun W hW => by
      have h := HRs.out W (.slice a3 n3 c3) (Q.trans hq05 hW) (HS.out.keep hW)
      unfold rsV at h; rw [if_neg HZ.out] at h; exact h)
    clear hlz
    refine steadily_call (i := 11) (v := _) rfl rfl (by kernel_rfl) (by kernel_rfl) (fun _ _ _ h => h) (by rfl) ?_ (fun w' hq => HR2.out w' hq) ?_
    · (intro w' hq; go_simp; try with_reducible rfl)
    simp only [Act.put, List.setIfInBounds_toArray, List.set_cons_zero, List.set_cons_succ]
    refine svp 12 ?_
    refine svp 13 ?_
    refine svp 14 ?_
    refine svp 15 ?_
    refine steadily_done (by kernel_rfl) (fun w6 hq6 => ?_)
    simp only [List.drop_succ_cons, List.drop_nil]
    have hQ6 := Q.trans (Q.trans hQ0 hq05) hq6
    clear HRs HR2 HC
    go_wp2
    go_ret2
    exact ⟨by unfold rsV; rw [if_neg HZ.out]; rfl, hQ6⟩
theorem mul_short_lim {x y : Int} (hl : (Lib.itoa x).length + (Lib.itoa y).length ≤ 18) : lim (x * y) = false := by
  have h := mul_bound hl
  exact lim_of_lt (by omega)
theorem integer_Mul (x y : Int) (hx : lim x = false) (hy : lim y = false) (w : World) (hE : Env w) :
    Calls Tryz.prog 53 #[.string ⟨(Lib.itoa x).toArray⟩, .string ⟨(Lib.itoa y).toArray⟩] w fun e w' => e = .returned (rsV (x * y)) ∧ Q w w' := by
  by_cases hl : 18 < (Lib.itoa x).length + (Lib.itoa y).length
  · exact integer_Mul_long x y hx hy hl w hE
  · have : rsV (x * y) = .tuple #[.string ⟨(Lib.itoa (x * y)).toArray⟩, .int .i64 0] := by
      unfold rsV; rw [mul_short_lim (by omega)]; rfl
    rw [this]
    exact integer_Mul_short x y (by omega) w hE
theorem sgn_not (m : Bool) (z : Int) : sgn (!m) z = -sgn m z := by cases m <;> simp [sgn]
set_option maxRecDepth 100000 in
set_option maxHeartbeats 1000000 in
theorem integer_Sub_long (x y : Int) (hx : lim x = false) (hy : lim y = false) (hl : 18 < (Lib.itoa x).length ∨ 18 < (Lib.itoa y).length) (w : World) (hE : Env w) :
    Calls Tryz.prog 72 #[.string ⟨(Lib.itoa x).toArray⟩, .string ⟨(Lib.itoa y).toArray⟩] w fun e w' => e = .returned (rsV (x - y)) ∧ Q w w' := by
  have hx1 := lim_lt hx
  have hy1 := lim_lt hy
  have hs : ((x - y).natAbs : Int) < LB ^ 35 := by
    have h := pow_step 34
    have h1 : LB ^ 35 = LB ^ 34 * LB := h.1
    have h2 := Int.mul_le_mul_of_nonneg_left (show (2 : Int) ≤ LB by decide) (Int.le_of_lt h.2)
    omega
  have HB := Lib.hid (fun w => integer_both_ok x y hx hy w)
  have HS := Lib.hid (fun w => integer_small_long _ _ hl w)
  have HX := Lib.hid (fun w => read_itoa x hx w)
  have HY := Lib.hid (fun w => read_itoa y hy w)
  have HH := Lib.hid hs
  have HM := Lib.hid (show sgn (decide (x < 0)) x.natAbs + sgn (!decide (y < 0)) y.natAbs = x - y by rw [sgn_not, sgn_dec, sgn_dec]; omega)
  clear hs hx1 hy1 hl hx hy
  generalize decide (x < 0) = m1 at *
  generalize decide (y < 0) = m2 at *
  obtain ⟨mn, hmn⟩ : ∃ mn, (!m2) = mn := ⟨_, rfl⟩
  rw [hmn] at HM
  go_enter Tryz.func72, Tryz.ntmps72
  go_wp2_with fail
  refine (HB.out _).mono ?_
  rintro e w1 ⟨rfl, hq1⟩
  go_wp2_with fail
  refine (HS.out _).mono ?_
  rintro e w2 ⟨rfl, rfl⟩
  go_wp2_with fail
  refine (HY.out _).mono ?_
  rintro e w3 ⟨v2, rfl, hv2, hq3⟩
  have hQ3 := Q.trans hq1 hq3
  have N2 := Lib.hid hv2
  obtain ⟨a2, c2, rfl, -, -⟩ := hv2.2.2
  generalize hn2 : (limbs LB (y.natAbs : Int)).length = n2 at *
  clear hv2 hn2
  obtain ⟨W0, hW0⟩ : ∃ W0, w3.alloc (.cells [.bool m2, .slice a2 n2 c2].toArray 123) = W0 := ⟨_, rfl⟩
  have B0 : Blk W0 w3.heap.size [.bool m2, .slice a2 n2 c2] 123 := by rw [← hW0]; exact Blk.new w3 _ _
  have hq0 : Q w3 W0 := by rw [← hW0]; exact (Below.refl _ w3).alloc (Nat.le_refl _) _
  have b0 := B0.cell 0
  have f0 := B0.frozen 0
  simp only [List.getElem?_cons_zero] at b0 hW0
  obtain ⟨W1, hW1⟩ : ∃ W1, W0.setCell ⟨w3.heap.size, 0, none⟩ (.bool mn) = W1 := ⟨_, rfl⟩
  have B1 : Blk W1 w3.heap.size [.bool mn, .slice a2 n2 c2] 123 := by rw [← hW1]; exact B0.set 0 (.bool mn)
  have hq01 : Q w3 W1 := by rw [← hW1]; exact hq0.setCell (p := ⟨w3.heap.size, 0, none⟩) (by simp) _
  have hQ1 := Q.trans hQ3 hq01
  have d0 := B1.drew.cell 0
  have d1 := B1.drew.cell 1
  simp only [List.getElem?_cons_zero, List.getElem?_cons_succ] at d0 d1
  clear HB HS HY
  go_wp2_with fail
  refine wp_steadily 9 rfl (by kernel_rfl) rfl ?_
  refine svp 0 ?_
  refine steadily_value (i := 2) (v := .agg #[.bool mn, .slice a2 n2 c2]) rfl rfl (by kernel_rfl) (by kernel_rfl) (fun _ _ _ h => h) (by rfl) (fun w' hq => ?_) ?_
  · have h0 := qcell hq d0
    have h1 := qcell hq d1
    go_simp
  simp only [Act.put, List.setIfInBounds_toArray, List.set_cons_zero, List.set_cons_succ]
  refine steadily_only (i := 1) rfl rfl (by kernel_rfl) (by rfl) ?_ (fun w' hq => (HX.out w').mono ?_)
  · (intro w' hq; go_simp; try with_reducible rfl)
  rintro e w5 ⟨v1, rfl, hv1, hq5⟩
  have hq15 : Q W1 w5 := Q.trans (Below.trans (Below.drew (Q.refl W1)) hq) hq5
  refine ⟨_, rfl, hq5, ?_⟩
  simp only [Act.put, List.setIfInBounds_toArray, List.set_cons_zero, List.set_cons_succ]
  refine steadily_only (i := 3) rfl rfl (by kernel_rfl) (by rfl) ?_ (fun w' hq => (integer_add m1 mn _ _ _ _ w' (hv1.keep hq) (N2.out.keep (Q.trans hq01 (Q.trans hq15 hq)))).mono ?_)
  · (intro w' hq; go_simp; try with_reducible rfl)
  rintro e w6 ⟨m, z, v, rfl, hm, hz, hi, hq6⟩
  refine ⟨_, rfl, hq6, ?_⟩
  simp only [Act.put, List.setIfInBounds_toArray, List.set_cons_zero, List.set_cons_succ]
  rw [HM.out] at hm
  have hQ6 : Q w w6 := Q.trans hQ1 (Q.trans hq15 (Q.trans hq hq6))
  have HRs : Hid (∀ W, Q w6 W → Calls Tryz.prog 88 #[.agg #[.bool m, v]] W fun e w' => e = .returned (rsV (x - y)) ∧ Q W w') := Lib.hid (fun W hW => by
    have h := integer_result m z v W (hE.q (Q.trans hQ6 hW)) (numOf_of hm hz (hi.keep hW) 35 (by decide) HH.out)
    rw [hm] at h
    exact h)
  clear hm hi hv1
  by_cases hlz : lim (x - y) = true
  · have HZ := Lib.hid hlz
    have HR2 : Hid (∀ W, Q w6 W → Calls Tryz.prog 88 #[.agg #[.bool m, v]] W fun e w' => e = .returned (.tuple #[.string ⟨#[]⟩, .int .i64 4]) ∧ Q W w') := Lib.hid (fun W hW => by
      have h := HRs.out W hW
      unfold rsV at h; rw [if_pos HZ.out] at h; exact h)
    clear hlz
    refine steadily_call (i := 4) (v := _) rfl rfl (by kernel_rfl) (by kernel_rfl) (fun _ _ _ h => h) (by rfl) ?_ (fun w' hq => HR2.out w' hq) ?_
    · (intro w' hq; go_simp; try with_reducible rfl)
    simp only [Act.put, List.setIfInBounds_toArray, List.set_cons_zero, List.set_cons_succ]
    refine svp 5 ?_
    refine svp 6 ?_
    refine svp 7 ?_
    refine svp 8 ?_
    refine steadily_done (by kernel_rfl) (fun w7 hq7 => ?_)
    simp only [List.drop_succ_cons, List.drop_nil]
    have hQ7 := Q.trans hQ6 hq7
    clear HRs HR2
    go_wp2
    go_ret2
    exact ⟨by unfold rsV; rw [if_pos HZ.out]; rfl, hQ7⟩
  · have HZ := Lib.hid hlz
    have HR2 : Hid (∀ W, Q w6 W → Calls Tryz.prog 88 #[.agg #[.bool m, v]] W fun e w' => e = .returned (.tuple #[.string ⟨(Lib.itoa (x - y)).toArray⟩, .int .i64 0]) ∧ Q W w') := Lib.hid (fun W hW => by
      have h := HRs.out W hW
      unfold rsV at h; rw [if_neg HZ.out] at h; exact h)
    clear hlz
    refine steadily_call (i := 4) (v := _) rfl rfl (by kernel_rfl) (by kernel_rfl) (fun _ _ _ h => h) (by rfl) ?_ (fun w' hq => HR2.out w' hq) ?_
    · (intro w' hq; go_simp; try with_reducible rfl)
    simp only [Act.put, List.setIfInBounds_toArray, List.set_cons_zero, List.set_cons_succ]
    refine svp 5 ?_
    refine svp 6 ?_
    refine svp 7 ?_
    refine svp 8 ?_
    refine steadily_done (by kernel_rfl) (fun w7 hq7 => ?_)
    simp only [List.drop_succ_cons, List.drop_nil]
    have hQ7 := Q.trans hQ6 hq7
    clear HRs HR2
    go_wp2
    go_ret2
    exact ⟨by unfold rsV; rw [if_neg HZ.out]; rfl, hQ7⟩
theorem integer_Sub (x y : Int) (hx : lim x = false) (hy : lim y = false) (w : World) (hE : Env w) :
    Calls Tryz.prog 72 #[.string ⟨(Lib.itoa x).toArray⟩, .string ⟨(Lib.itoa y).toArray⟩] w fun e w' => e = .returned (rsV (x - y)) ∧ Q w w' := by
  by_cases hl : 18 < (Lib.itoa x).length ∨ 18 < (Lib.itoa y).length
  · exact integer_Sub_long x y hx hy hl w hE
  · have hx2 := short_abs (x := x) (by omega)
    have hy2 := short_abs (x := y) (by omega)
    have : rsV (x - y) = .tuple #[.string ⟨(Lib.itoa (x - y)).toArray⟩, .int .i64 0] := by
      unfold rsV; rw [lim_of_lt (by omega)]; rfl
    rw [this]
    exact integer_Sub_short x y (by omega) (by omega) w hE
end Go.Proofs.YtohonlboaddppaaGreatDoor
namespace Go.Proofs.YtohonlboaddppaaGreatDoor
open Go.RowKit Kp
open Go.Lib (decDigits)
theorem limbs_len_zero {z : Int} (hz : 0 ≤ z) : (limbs LB z).length = 0 ↔ z = 0 := by
  constructor
  · intro h
    by_cases h0 : 0 < z
    · rw [limbs_pos (by decide) h0] at h; simp at h
    · omega
  · rintro rfl; rw [limbs_zero (Int.le_refl _)]; rfl
set_option maxRecDepth 100000 in
set_option maxHeartbeats 1000000 in
theorem integer_Compare_long (x y : Int) (hx : lim x = false) (hy : lim y = false) (hl : 18 < (Lib.itoa x).length ∨ 18 < (Lib.itoa y).length) (w : World) :
    Calls Tryz.prog 28 #[.string ⟨(Lib.itoa x).toArray⟩, .string ⟨(Lib.itoa y).toArray⟩] w fun e w' => e = .returned (.tuple #[.int .i64 (Lib.compareInt x y), .int .i64 0]) ∧ Q w w' := by
  have HB := Lib.hid (fun w => integer_both_ok x y hx hy w)
  have HS := Lib.hid (fun w => integer_small_long _ _ hl w)
  have HX := Lib.hid (fun w => read_itoa x hx w)
  have HY := Lib.hid (fun w => read_itoa y hy w)
  have HM := Lib.hid (show sgn (decide (x < 0)) x.natAbs + sgn (!decide (y < 0)) y.natAbs = x - y by rw [sgn_not, sgn_dec, sgn_dec]; omega)
  clear hl hx hy
  generalize decide (x < 0) = m1 at *
  generalize decide (y < 0) = m2 at *
  obtain ⟨mn, hmn⟩ : ∃ mn, (!m2) = mn := ⟨_, rfl⟩
  rw [hmn] at HM
  go_enter Tryz.func28, Tryz.ntmps28
  go_wp2_with fail
  refine (HB.out _).mono ?_
  rintro e w1 ⟨rfl, hq1⟩
  go_wp2_with fail
  refine (HS.out _).mono ?_
  rintro e w2 ⟨rfl, rfl⟩
  go_wp2_with fail
  refine (HX.out _).mono ?_
  rintro e w3 ⟨v1, rfl, hv1, hq3⟩
  go_wp2_with fail
  refine (HY.out _).mono ?_
  rintro e w4 ⟨v2, rfl, hv2, hq4⟩
  have hQ4 := Q.trans (Q.trans hq1 hq3) hq4
  have N1 := Lib.hid (hv1.keep hq4)
  have N2 := Lib.hid hv2
  obtain ⟨a1, c1, rfl, -, -⟩ := hv1.2.2
  obtain ⟨a2, c2, rfl, -, -⟩ := hv2.2.2
  generalize hn1 : (limbs LB (x.natAbs : Int)).length = n1 at *
  generalize hn2 : (limbs LB (y.natAbs : Int)).length = n2 at *
  clear hv1 hv2 hn1 hn2
  obtain ⟨W0, hW0⟩ : ∃ W0, (w4.alloc (.cells [.bool m1, .slice a1 n1 c1].toArray 123)).alloc (.cells [.bool m2, .slice a2 n2 c2].toArray 123) = W0 := ⟨_, rfl⟩
  have hq0 : Q w4 W0 := by rw [← hW0]; exact ((Below.refl _ w4).alloc (Nat.le_refl _) _).alloc (by simp) _
  have B1 : Blk W0 w4.heap.size [.bool m1, .slice a1 n1 c1] 123 := by rw [← hW0]; exact (Blk.new w4 _ _).alloc _
  have B2 : Blk W0 (w4.heap.size + 1) [.bool m2, .slice a2 n2 c2] 123 := by
    have := Blk.new (w4.alloc (.cells [.bool m1, .slice a1 n1 c1].toArray 123)) [.bool m2, .slice a2 n2 c2] 123
    rw [World.size_alloc, hW0] at this; exact this
  have e0 := B2.cell 0
  have f0 := B2.frozen 0
  obtain ⟨W1, hW1⟩ : ∃ W1, W0.setCell ⟨w4.heap.size + 1, 0, none⟩ (.bool mn) = W1 := ⟨_, rfl⟩
  have C1 : Blk W1 w4.heap.size [.bool m1, .slice a1 n1 c1] 123 := by rw [← hW1]; exact B1.setOther (by omega) 0 _
  have C2 : Blk W1 (w4.heap.size + 1) [.bool mn, .slice a2 n2 c2] 123 := by rw [← hW1]; exact B2.set 0 (.bool mn)
  have hq01 : Q w4 W1 := by rw [← hW1]; exact hq0.setCell (p := ⟨w4.heap.size + 1, 0, none⟩) (by simp) _
  have hQ1 := Q.trans hQ4 hq01
  have d0 := C1.cell 0
  have d1 := C1.cell 1
  have d2 := C2.cell 0
  have d3 := C2.cell 1
  simp only [List.getElem?_cons_zero, List.getElem?_cons_succ] at d0 d1 d2 d3 e0 hW0
  clear HB HS HX HY
  go_wp2_with fail
  refine (integer_add m1 mn _ _ _ _ W1 (N1.out.keep hq01) (N2.out.keep hq01)).mono ?_
  rintro e w6 ⟨m, z, v, rfl, hm, hz, hi, hq6⟩
  rw [HM.out] at hm
  have hQ6 : Q w w6 := Q.trans hQ1 hq6
  obtain ⟨a3, c3, rfl, -, -⟩ := hi
  have hz0 := limbs_len_zero hz
  generalize (limbs LB z).length = n3 at *
  have HQ : Hid (∀ o : Obj, Q w (w6.alloc o)) := Lib.hid (fun o => hQ6.alloc hQ6.size o)
  have D0 : Blk (w6.alloc (.cells [.bool m, .slice a3 n3 c3].toArray 123)) w6.heap.size [.bool m, .slice a3 n3 c3] 123 := Blk.new w6 _ _
  have g0 := D0.cell 0
  have g1 := D0.cell 1
  simp only [List.getElem?_cons_zero, List.getElem?_cons_succ] at g0 g1
  clear d0 d1 d2 d3 e0 f0 hW0 hW1
  by_cases h0 : n3 = 0
  · have hxy : x = y := by
      have := hz0.1 h0; subst this
      have : sgn m 0 = 0 := by cases m <;> rfl
      omega
    have HE : Hid (Lib.compareInt x y = 0) := Lib.hid (by subst hxy; simp [Lib.compareInt])
    subst h0
    clear hz0 hxy hm
    go_wp2
    go_ret2
    exact ⟨by rw [HE.out]; rfl, HQ.out _⟩
  · have hnb : ((n3 : Int) == 0) = false := by rw [beq_eq_false_iff_ne]; omega
    have hzp : z ≠ 0 := fun e => h0 (hz0.2 e)
    cases m with
    | true =>
      have HE : Hid (Lib.compareInt x y = -1) := Lib.hid (by
        have : x < y := by simp [sgn] at hm; omega
        unfold Lib.compareInt; rw [if_pos this])
      clear hz0 hm h0
      go_wp2
      go_ret2
      exact ⟨by rw [HE.out]; rfl, HQ.out _⟩
    | false =>
      have HE : Hid (Lib.compareInt x y = 1) := Lib.hid (by
        have : y < x := by simp [sgn] at hm; omega
        unfold Lib.compareInt; rw [if_neg (by omega), if_pos this])
      clear hz0 hm h0
      go_wp2
      go_ret2
      exact ⟨by rw [HE.out]; rfl, HQ.out _⟩
theorem integer_Compare (x y : Int) (hx : lim x = false) (hy : lim y = false) (w : World) :
    Calls Tryz.prog 28 #[.string ⟨(Lib.itoa x).toArray⟩, .string ⟨(Lib.itoa y).toArray⟩] w fun e w' => e = .returned (.tuple #[.int .i64 (Lib.compareInt x y), .int .i64 0]) ∧ Q w w' := by
  by_cases hl : 18 < (Lib.itoa x).length ∨ 18 < (Lib.itoa y).length
  · exact integer_Compare_long x y hx hy hl w
  · exact integer_Compare_short x y (by omega) (by omega) w
theorem field_num (m : Bool) (a : Option Addr) (n c : Nat) (w : World) : (Instr.field 123 (.agg #[.bool m, .slice a n c]) 1).run Tryz.prog w = .ok (.slice a n c) w := by kernel_rfl
theorem limbs_len_lt_of {x y : Int} (hy : 0 ≤ y) (h : x ≤ y) : (limbs LB x).length ≤ (limbs LB y).length :=
  limbs_len_le (by decide) _ _ (by
    have h1 := lval_lt (show (0 : Int) < LB by decide) (limbs_dig (B := LB) (by decide) y)
    rw [lval_limbs (by decide) y hy] at h1
    omega)
def slVal (w : World) (v : Value) : Nat := match v with
  | .slice (some a) n _ => (lval LB ((List.range n).map fun i => match w.cell? ⟨a.block, a.off + i, none⟩ with | some (.int _ x) => x | _ => 0)).toNat
  | _ => 0
theorem slVal_of {w : World} {v : Value} {l : List Int} (h : IntSl w v l) : slVal w v = (lval LB l).toNat := by
  rcases h.cases with ⟨rfl, a, cap, rfl⟩ | ⟨b, o, cap, rfl, hcap, h0, hA⟩
  · cases a <;> rfl
  · unfold slVal
    simp only
    congr 2
    refine List.ext_getElem (by simp) fun i h1 h2 => ?_
    rw [List.getElem_map, List.getElem_range, hA.2 i h2, List.getD_eq_getElem?_getD, List.getElem?_eq_getElem h2]
    rfl
theorem slVal_num {w : World} {v : Value} {n : Nat} (h : NumOf w n v) : slVal w v = n := by
  rw [slVal_of h.2.2, lval_limbs (by decide) _ (by omega)]; omega
set_option maxRecDepth 100000 in
set_option maxHeartbeats 1000000 in
theorem integer_Gcd_long (x y : Int) (hx : lim x = false) (hy : lim y = false) (hl : 18 < (Lib.itoa x).length ∨ 18 < (Lib.itoa y).length) (w : World) (hE : Env w) :
    Calls Tryz.prog 52 #[.string ⟨(Lib.itoa x).toArray⟩, .string ⟨(Lib.itoa y).toArray⟩] w fun e w' => e = .returned (.tuple #[.string ⟨(Lib.itoa (Nat.gcd x.natAbs y.natAbs : Int)).toArray⟩, .int .i64 0]) ∧ Q w w' := by
  have HB := Lib.hid (fun w => integer_both_ok x y hx hy w)
  have HS := Lib.hid (fun w => integer_small_long _ _ hl w)
  have HX := Lib.hid (fun w => read_itoa x hx w)
  have HY := Lib.hid (fun w => read_itoa y hy w)
  have hgl : lim (Nat.gcd x.natAbs y.natAbs : Int) = false := by
    rw [lim_false, Int.natAbs_natCast]
    have h1 := (lim_false x).1 hx
    have h2 := (lim_false y).1 hy
    by_cases h0 : x.natAbs = 0
    · rw [h0, Nat.gcd_zero_left]; exact h2
    · exact Nat.lt_of_le_of_lt (Nat.gcd_le_left _ (by omega)) h1
  have hgr : rsV (Nat.gcd x.natAbs y.natAbs : Int) = .tuple #[.string ⟨(Lib.itoa (Nat.gcd x.natAbs y.natAbs : Int)).toArray⟩, .int .i64 0] := by unfold rsV; rw [hgl]; rfl
  have HGR := Lib.hid hgr
  clear hl hx hy hgr hgl
  go_enter Tryz.func52, Tryz.ntmps52
  go_wp2_with fail
  refine (HB.out _).mono ?_
  rintro e w1 ⟨rfl, hq1⟩
  go_wp2_with fail
  refine (HS.out _).mono ?_
  rintro e w2 ⟨rfl, rfl⟩
  go_wp2_with fail
  refine (HX.out _).mono ?_
  rintro e w3 ⟨v1, rfl, hv1, hq3⟩
  have N1 := Lib.hid hv1
  obtain ⟨a1, c1, rfl, -, -⟩ := hv1.2.2
  generalize (limbs LB (x.natAbs : Int)).length = n1 at *
  clear hv1
  generalize decide (x < 0) = m1 at *
  have hf1 := field_num m1 a1 n1 c1
  go_wp2_with fail
  refine (HY.out _).mono ?_
  rintro e w4 ⟨v2, rfl, hv2, hq4⟩
  have hQ4 := Q.trans (Q.trans hq1 hq3) hq4
  have N1' := Lib.hid (N1.out.keep hq4)
  have N2 := Lib.hid hv2
  obtain ⟨a2, c2, rfl, -, -⟩ := hv2.2.2
  generalize hn2 : (limbs LB (y.natAbs : Int)).length = n2 at *
  have HN2 := Lib.hid hn2
  clear hv2 hn2 HB HS HX HY N1
  generalize decide (y < 0) = m2 at *
  have hf2 := field_num m2 a2 n2 c2
  go_wp2_with fail
  go_loopw [10, 11] (fun u v wr => ∃ (p q n1 n2 c1 c2 : Nat) (a1 a2 : Option Addr), u = .slice a1 n1 c1 ∧ v = .slice a2 n2 c2 ∧ Hid (NumOf wr p (.slice a1 n1 c1)) ∧ Hid (NumOf wr q (.slice a2 n2 c2)) ∧ Hid ((limbs LB (q : Int)).length = n2) ∧ Hid (Nat.gcd p q = Nat.gcd x.natAbs y.natAbs) ∧ Q w wr) (fun _ v wr => slVal wr v)
  case atStart => exact ⟨x.natAbs, y.natAbs, n1, n2, c1, c2, a1, a2, rfl, rfl, N1', N2, HN2, Lib.hid rfl, hQ4⟩
  case round =>
    clear N1' N2 HN2 hQ4 hq4 hq3 hq1 hf1 hf2
    obtain ⟨p, q, k1, k2, e1, e2, b1, b2, rfl, rfl, M1, M2, HK, HG, hQ⟩ := hrel
    by_cases h0 : k2 = 0
    · subst h0
      have hq0 : q = 0 := by
        have := (limbs_len_zero (z := (q : Int)) (by omega)).1 HK.out
        omega
      subst hq0
      have hg := HG.out
      rw [Nat.gcd_zero_right] at hg
      have HR := Lib.hid (integer_result false p _ wr (hE.q hQ) M1.out)
      have e : sgn false (p : Int) = ((Nat.gcd x.natAbs y.natAbs : Nat) : Int) := by rw [← hg]; rfl
      rw [e, HGR.out] at HR
      clear hg e
      go_wp2_with fail
      refine HR.out.mono ?_
      rintro e w5 ⟨rfl, hq5⟩
      have hQ5 := Q.trans hQ hq5
      clear HR
      go_wp2
      go_ret2
      exact ⟨rfl, hQ5⟩
    · have hq0 : 0 < q := by
        by_cases h : q = 0
        · exact absurd (by have := (limbs_len_zero (z := (q : Int)) (by omega)).2 (by omega); rw [HK.out] at this; exact this) h0
        · omega
      have hk2 : (0 : Int) < (k2 : Int) := by omega
      have HD := Lib.hid (integer_divide (p : Int) (q : Int) (by omega) (by omega) (by have := M1.out.2.1; omega) (by have := M2.out.2.1; omega) _ _ wr M1.out.2.2 M2.out.2.2)
      have hsv := slVal_num M2.out
      clear h0
      go_wp2_with fail
      refine HD.out.mono ?_
      rintro e w5 ⟨qv, rv, rfl, -, hr, hq5⟩
      rw [show (p : Int) % (q : Int) = ((p % q : Nat) : Int) by rfl] at hr
      have M3 : Hid (NumOf w5 (p % q : Nat) rv) := Lib.hid ⟨by omega, by
        have h1 := limbs_len_lt_of (x := ((p % q : Nat) : Int)) (y := (q : Int)) (by omega) (by have := Nat.mod_lt p hq0; omega)
        have := M2.out.2.1
        omega, hr⟩
      obtain ⟨a3, c3, rfl, -, -⟩ := hr
      have hsv3 := slVal_num M3.out
      generalize hn3 : (limbs LB ((p % q : Nat) : Int)).length = n3 at *
      have HN3 := Lib.hid hn3
      have M2' := Lib.hid (M2.out.keep hq5)
      have hQ5 := Q.trans hQ hq5
      have hmd := Nat.mod_lt p hq0
      have HG' : Hid (Nat.gcd q (p % q) = Nat.gcd x.natAbs y.natAbs) := Lib.hid (by rw [← gcd_step]; exact HG.out)
      clear hn3 HD M1 M2 HG
      go_wp2
      go_roundw
      case rel => exact ⟨q, p % q, _, _, _, _, _, _, rfl, rfl, M2', M3, HN3, HG', hQ5⟩
      case measure => rw [hsv, hsv3]; exact hmd
theorem integer_Gcd (x y : Int) (hx : lim x = false) (hy : lim y = false) (w : World) (hE : Env w) :
    Calls Tryz.prog 52 #[.string ⟨(Lib.itoa x).toArray⟩, .string ⟨(Lib.itoa y).toArray⟩] w fun e w' => e = .returned (.tuple #[.string ⟨(Lib.itoa (Nat.gcd x.natAbs y.natAbs : Int)).toArray⟩, .int .i64 0]) ∧ Q w w' := by
  by_cases hl : 18 < (Lib.itoa x).length ∨ 18 < (Lib.itoa y).length
  · exact integer_Gcd_long x y hx hy hl w hE
  · exact integer_Gcd_short x y (by omega) (by omega) w hE
end Go.Proofs.YtohonlboaddppaaGreatDoor
