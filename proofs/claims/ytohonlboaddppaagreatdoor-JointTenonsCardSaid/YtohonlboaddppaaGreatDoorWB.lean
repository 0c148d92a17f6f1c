/-
  Walks: the package integer where numbers are short.; Walks: the functions of package integer at short numerals (at most 18 bytes).
-/
import Derived.Test.YtohonlboaddppaaGreatDoorShelf
import Derived.Test.YtohonlboaddppaaGreatDoorTimberM
namespace Go.Proofs.YtohonlboaddppaaGreatDoor
open Go.RowKit Kp
theorem beq48 {c : UInt8} (h : c ≠ 48) : ((c.toNat : Int) == 48) = false := by rw [toNat48]; simpa using h
set_option maxHeartbeats 400000 in
theorem integer_Check_zero (w : World) :
    Calls Tryz.prog 90 #[.string ⟨[48].toArray⟩] w fun e w' => e = .returned (.int .i64 0) ∧ Q w w' := by
  go_enter Tryz.func90, Tryz.ntmps90
  go_wp2_with (first | (go_at_call 34; refine (lib_TrimMinus [48] _).mono ?_; rintro e w1 ⟨rfl, rfl⟩; rw [show unsig [48] = [48] from rfl]) | (go_at_call 127; refine (lib_TrimDigits [48] (by decide) _).mono ?_; rintro e w1 ⟨rfl, hq⟩; rw [show noDig [48] = [] from by decide]))
  go_ret
  exact ⟨rfl, hq⟩
set_option maxHeartbeats 400000 in
theorem integer_Check (a : Str) (hl : a.length ≤ 1000000000) (w : World) :
    Calls Tryz.prog 90 #[.string ⟨a.toArray⟩] w fun e w' => e = .returned (.int .i64 (ichk a)) ∧ Q w w' := by
  by_cases h48 : a = [48]
  · subst h48; rw [ichk_48]; exact integer_Check_zero w
  have hu := unsig_len a
  by_cases hn : unsig a = []
  · rw [ichk_empty hn]
    go_enter Tryz.func90, Tryz.ntmps90
    go_wp2_with (go_at_call 34; refine (lib_TrimMinus a _).mono ?_; rintro e w1 ⟨rfl, rfl⟩; rw [hn])
    go_ret
    exact ⟨rfl, Below.refl _ _⟩
  have hne : (unsig a).isEmpty = false := by simpa using hn
  have hpos : 0 < (unsig a).length := List.length_pos_iff.2 hn
  by_cases h0 : at0 (unsig a) 0 = 48
  · rw [ichk_zero hn h0 h48]
    have hb : ((((at0 (unsig a) 0).toNat : Int)) == 48) = true := by rw [h0]; rfl
    clear h0
    go_enter Tryz.func90, Tryz.ntmps90
    go_wp2_with (go_at_call 34; refine (lib_TrimMinus a _).mono ?_; rintro e w1 ⟨rfl, rfl⟩)
    go_ret
    exact ⟨rfl, Below.refl _ _⟩
  have hb := beq48 h0
  by_cases hd : AllDig (unsig a)
  · have hN : (noDig (unsig a)).isEmpty = true := by rw [(noDig_nil _).2 hd]; rfl
    have HC := Lib.hid (ichk_rest hn h0 hd)
    clear h0 hd
    by_cases h3 : 300 < (unsig a).length
    all_goals
      go_enter Tryz.func90, Tryz.ntmps90
      go_wp2_with (first | (go_at_call 34; refine (lib_TrimMinus a _).mono ?_; rintro e w1 ⟨rfl, rfl⟩) | (go_at_call 127; refine (lib_TrimDigits _ (by omega) _).mono ?_; rintro e w1 ⟨rfl, hq⟩))
      go_ret
      refine ⟨ret_int ?_, hq⟩
      rw [HC.out]
      simp [h3]
  · have hN : (noDig (unsig a)).isEmpty = false := by
      have : noDig (unsig a) ≠ [] := fun e => hd ((noDig_nil _).1 e)
      simpa using this
    rw [ichk_digits hd]
    clear h0 hd
    go_enter Tryz.func90, Tryz.ntmps90
    go_wp2_with (first | (go_at_call 34; refine (lib_TrimMinus a _).mono ?_; rintro e w1 ⟨rfl, rfl⟩) | (go_at_call 127; refine (lib_TrimDigits _ (by omega) _).mono ?_; rintro e w1 ⟨rfl, hq⟩))
    go_ret
    exact ⟨rfl, hq⟩
set_option maxHeartbeats 400000 in
theorem integer_both (a b : Str) (ha : a.length ≤ 1000000000) (hb : b.length ≤ 1000000000) (w : World) :
    Calls Tryz.prog 54 #[.string ⟨a.toArray⟩, .string ⟨b.toArray⟩] w fun e w' => e = .returned (.int .i64 (if ichk a = 0 then ichk b else ichk a)) ∧ Q w w' := by
  by_cases h : ichk a = 0
  · have H := Lib.hid h
    have hb2 : (ichk a == 0) = true := by simpa using h
    have hb3 : (ichk a != 0) = false := by simpa using h
    clear h
    go_enter Tryz.func54, Tryz.ntmps54
    go_wp2_with fail
    refine (integer_Check a ha _).mono ?_
    rintro e w1 ⟨rfl, hq⟩
    go_wp2_with fail
    refine (integer_Check b hb _).mono ?_
    rintro e w2 ⟨rfl, hq2⟩
    go_wp2
    go_ret
    exact ⟨ret_int (by first | rfl | (rw [if_pos H.out]; rfl)), hq.trans (hq2.mono hq.size)⟩
  · have H := Lib.hid h
    have hb2 : (ichk a == 0) = false := by simpa using h
    have hb3 : (ichk a != 0) = true := by simpa using h
    clear h
    go_enter Tryz.func54, Tryz.ntmps54
    go_wp2_with fail
    refine (integer_Check a ha _).mono ?_
    rintro e w1 ⟨rfl, hq⟩
    go_wp2_with fail
    go_ret
    exact ⟨ret_int (by first | rfl | (rw [if_neg H.out]; rfl)), hq⟩
set_option maxHeartbeats 400000 in
theorem integer_small (x y : Int) (hx : (Lib.itoa x).length ≤ 18) (hy : (Lib.itoa y).length ≤ 18) (w : World) :
    Calls Tryz.prog 55 #[.string ⟨(Lib.itoa x).toArray⟩, .string ⟨(Lib.itoa y).toArray⟩, .int .i64 18] w fun e w' => e = .returned (.tuple #[.int .i64 x, .int .i64 y, .bool true]) ∧ Q w w' := by
  go_enter Tryz.func55, Tryz.ntmps55
  go_wp2_with fail
  refine (lib_Atoi x hx _).mono ?_
  rintro e w1 ⟨rfl, hq⟩
  go_wp2_with fail
  refine (lib_Atoi y hy _).mono ?_
  rintro e w2 ⟨rfl, hq2⟩
  go_wp2_with fail
  go_quiet (fail)
  go_wp2
  go_ret3
  exact ⟨rfl, Below.drewN (hq.trans (hq2.mono hq.size)) _⟩
end Go.Proofs.YtohonlboaddppaaGreatDoor
namespace Go.Proofs.YtohonlboaddppaaGreatDoor
open Go.RowKit Kp
theorem integer_both_ok (x y : Int) (hx : lim x = false) (hy : lim y = false) (w : World) :
    Calls Tryz.prog 54 #[.string ⟨(Lib.itoa x).toArray⟩, .string ⟨(Lib.itoa y).toArray⟩] w fun e w' => e = .returned (.int .i64 0) ∧ Q w w' := by
  have h1 := itoa_len x hx
  have h2 := itoa_len y hy
  refine (integer_both (Lib.itoa x) (Lib.itoa y) (by omega) (by omega) w).mono ?_
  rintro e w' ⟨rfl, hq⟩
  exact ⟨ret_int (by rw [ichk_itoa, hx, ichk_itoa, hy]; rfl), hq⟩
def GcdRelZ (w : World) (g : Nat) (x y : Value) (wr : World) : Prop :=
  ∃ (p q : Int), x = .int .i64 p ∧ y = .int .i64 q ∧ p.natAbs ≤ 1000000000000000000 ∧ q.natAbs ≤ 1000000000000000000 ∧ Nat.gcd p.natAbs q.natAbs = g ∧ Q w wr ∧ Env wr
theorem max_neg (p : Int) : max p (-p) = p.natAbs := by omega
set_option maxHeartbeats 400000 in
theorem integer_Gcd_short (x y : Int) (hx : (Lib.itoa x).length ≤ 18) (hy : (Lib.itoa y).length ≤ 18) (w : World) (hE : Env w) :
    Calls Tryz.prog 52 #[.string ⟨(Lib.itoa x).toArray⟩, .string ⟨(Lib.itoa y).toArray⟩] w fun e w' => e = .returned (.tuple #[.string ⟨(Lib.itoa (Nat.gcd x.natAbs y.natAbs : Int)).toArray⟩, .int .i64 0]) ∧ Q w w' := by
  have hx1 := short_abs hx
  have hy1 := short_abs hy
  go_enter Tryz.func52, Tryz.ntmps52
  go_wp2_with fail
  refine (integer_both_ok x y (short_lim hx) (short_lim hy) _).mono ?_
  rintro e w1 ⟨rfl, hq⟩
  go_wp2_with fail
  refine (integer_small x y hx hy _).mono ?_
  rintro e w2 ⟨rfl, hq2⟩
  have hQ2 : Q w w2 := hq.trans (hq2.mono hq.size)
  have hE2 := hE.q hQ2
  go_wp2_with fail
  go_loopw [7, 8] (GcdRelZ w (Nat.gcd x.natAbs y.natAbs)) (fun _ y _ => (intOf y).natAbs)
  case atStart => exact ⟨x, y, rfl, rfl, by omega, by omega, rfl, hQ2, hE2⟩
  case round =>
    obtain ⟨p, q, rfl, rfl, hp, hq, hg, hQ, hEr⟩ := hrel
    have HG := Lib.hid hg; clear hg
    by_cases h0 : q = 0
    · subst h0
      have hmx := max_neg p
      go_wp2_with fail
      refine (lib_Itoa _ (by omega) (by omega) _ hEr).mono ?_
      rintro e w3 ⟨rfl, hq3⟩
      go_wp2
      go_ret2
      have := HG.out
      simp at this
      exact ⟨by rw [← this]; rfl, hQ.trans (hq3.mono hQ.size)⟩
    · have hne : (q == 0) = false := by simp; omega
      have h1 : (p.tmod q).natAbs = p.natAbs % q.natAbs := Int.natAbs_tmod ..
      have hm := Nat.mod_lt p.natAbs (show 0 < q.natAbs by omega)
      go_wp2_with fail
      go_quiet (fail)
      go_wp2
      go_roundw
      case rel => exact ⟨q, p.tmod q, rfl, rfl, by omega, by omega, by rw [← HG.out, h1, ← gcd_step], Below.drewN hQ _, hEr.drewN _⟩
      case measure => simp only [intOf]; omega
set_option maxHeartbeats 400000 in
theorem integer_Mul_short (x y : Int) (hx : (Lib.itoa x).length + (Lib.itoa y).length ≤ 18) (w : World) (hE : Env w) :
    Calls Tryz.prog 53 #[.string ⟨(Lib.itoa x).toArray⟩, .string ⟨(Lib.itoa y).toArray⟩] w fun e w' => e = .returned (.tuple #[.string ⟨(Lib.itoa (x * y)).toArray⟩, .int .i64 0]) ∧ Q w w' := by
  have hx1 := short_abs (x := x) (by omega)
  have hb := mul_bound hx
  go_enter Tryz.func53, Tryz.ntmps53
  go_wp2_with fail
  refine (integer_both_ok x y (short_lim (by omega)) (short_lim (by omega)) _).mono ?_
  rintro e w1 ⟨rfl, hq⟩
  go_wp2_with fail
  refine (integer_small x y (by omega) (by omega) _).mono ?_
  rintro e w2 ⟨rfl, hq2⟩
  have hQ2 : Q w w2 := hq.trans (hq2.mono hq.size)
  have hE2 := hE.q hQ2
  go_wp2_with fail
  refine (lib_Itoa _ (by omega) (by omega) _ hE2).mono ?_
  rintro e w3 ⟨rfl, hq3⟩
  go_wp2
  go_ret2
  exact ⟨rfl, hQ2.trans (hq3.mono hQ2.size)⟩
set_option maxHeartbeats 400000 in
theorem integer_Add_short (x y : Int) (hx : (Lib.itoa x).length ≤ 18) (hy : (Lib.itoa y).length ≤ 18) (w : World) (hE : Env w) :
    Calls Tryz.prog 70 #[.string ⟨(Lib.itoa x).toArray⟩, .string ⟨(Lib.itoa y).toArray⟩] w fun e w' => e = .returned (.tuple #[.string ⟨(Lib.itoa (x + y)).toArray⟩, .int .i64 0]) ∧ Q w w' := by
  have hx1 := short_abs hx
  have hy1 := short_abs hy
  go_enter Tryz.func70, Tryz.ntmps70
  go_wp2_with fail
  refine (integer_both_ok x y (short_lim hx) (short_lim hy) _).mono ?_
  rintro e w1 ⟨rfl, hq⟩
  go_wp2_with fail
  refine (integer_small x y hx hy _).mono ?_
  rintro e w2 ⟨rfl, hq2⟩
  have hQ2 : Q w w2 := hq.trans (hq2.mono hq.size)
  have hE2 := hE.q hQ2
  go_wp2_with fail
  refine (lib_Itoa _ (by omega) (by omega) _ hE2).mono ?_
  rintro e w3 ⟨rfl, hq3⟩
  go_wp2
  go_ret2
  exact ⟨rfl, hQ2.trans (hq3.mono hQ2.size)⟩
set_option maxHeartbeats 400000 in
theorem integer_Sub_short (x y : Int) (hx : (Lib.itoa x).length ≤ 18) (hy : (Lib.itoa y).length ≤ 18) (w : World) (hE : Env w) :
    Calls Tryz.prog 72 #[.string ⟨(Lib.itoa x).toArray⟩, .string ⟨(Lib.itoa y).toArray⟩] w fun e w' => e = .returned (.tuple #[.string ⟨(Lib.itoa (x - y)).toArray⟩, .int .i64 0]) ∧ Q w w' := by
  have hx1 := short_abs hx
  have hy1 := short_abs hy
  go_enter Tryz.func72, Tryz.ntmps72
  go_wp2_with fail
  refine (integer_both_ok x y (short_lim hx) (short_lim hy) _).mono ?_
  rintro e w1 ⟨rfl, hq⟩
  go_wp2_with fail
  refine (integer_small x y hx hy _).mono ?_
  rintro e w2 ⟨rfl, hq2⟩
  have hQ2 : Q w w2 := hq.trans (hq2.mono hq.size)
  have hE2 := hE.q hQ2
  go_wp2_with fail
  refine (lib_Itoa _ (by omega) (by omega) _ hE2).mono ?_
  rintro e w3 ⟨rfl, hq3⟩
  go_wp2
  go_ret2
  exact ⟨rfl, hQ2.trans (hq3.mono hQ2.size)⟩
set_option maxHeartbeats 400000 in
theorem integer_Compare_short (x y : Int) (hx : (Lib.itoa x).length ≤ 18) (hy : (Lib.itoa y).length ≤ 18) (w : World) :
    Calls Tryz.prog 28 #[.string ⟨(Lib.itoa x).toArray⟩, .string ⟨(Lib.itoa y).toArray⟩] w fun e w' => e = .returned (.tuple #[.int .i64 (Lib.compareInt x y), .int .i64 0]) ∧ Q w w' := by
  go_enter Tryz.func28, Tryz.ntmps28
  go_wp2_with fail
  refine (integer_both_ok x y (short_lim hx) (short_lim hy) _).mono ?_
  rintro e w1 ⟨rfl, hq⟩
  go_wp2_with fail
  refine (integer_small x y hx hy _).mono ?_
  rintro e w2 ⟨rfl, hq2⟩
  have hQ2 : Q w w2 := hq.trans (hq2.mono hq.size)
  go_wp2_with fail
  refine (Tryz.cmp_Compare_int _ _ _).mono ?_
  rintro e w3 ⟨rfl, rfl⟩
  go_wp2
  go_ret2
  exact ⟨rfl, hQ2⟩
set_option maxRecDepth 100000 in
set_option maxHeartbeats 800000 in
theorem integer_Divide_short (x y : Int) (hx : (Lib.itoa x).length ≤ 18) (hy : (Lib.itoa y).length ≤ 18) (hy0 : y ≠ 0) (w : World) (hE : Env w) :
    Calls Tryz.prog 83 #[.string ⟨(Lib.itoa x).toArray⟩, .string ⟨(Lib.itoa y).toArray⟩] w fun e w' => e = .returned (.tuple #[.string ⟨(Lib.itoa (x.fdiv y)).toArray⟩, .string ⟨(Lib.itoa (x.fmod y)).toArray⟩, .int .i64 0]) ∧ Q w w' := by
  have hx1 := short_abs hx
  have hy1 := short_abs hy
  have hn : (Lib.itoa y == [48]) = false := by
    rw [beq_eq_false_iff_ne, ← itoa_zero]; exact fun e => hy0 (itoa_inj e)
  have hy2 : (y == 0) = false := by simpa using hy0
  have hd1 := tdiv_abs x y
  have hm1 := tmod_abs x y hy0
  have hd2 : -1000000000000000000 ≤ x.tdiv y := by omega
  have hd3 : x.tdiv y ≤ 1000000000000000000 := by omega
  have hd4 : -1000000000000000000 ≤ x.tmod y := by omega
  have hd5 : x.tmod y ≤ 1000000000000000000 := by omega
  obtain ⟨f1, f2, f3⟩ := trunc_floor (x := x) hy0
  have F1 := Lib.hid f1
  have F2 := Lib.hid f2
  have F3 := Lib.hid f3
  clear f1 f2 f3 hd1 hm1
  go_enter Tryz.func83, Tryz.ntmps83
  go_wp2_with fail
  refine (integer_both_ok x y (short_lim hx) (short_lim hy) _).mono ?_
  rintro e w1 ⟨rfl, hq⟩
  go_wp2_with fail
  refine (integer_small x y hx hy _).mono ?_
  rintro e w2 ⟨rfl, hq2⟩
  have hQ2 : Q w w2 := hq.trans (hq2.mono hq.size)
  have hE2 := hE.q hQ2
  go_wp2_with fail
  go_quiet (fail)
  go_wp2_with fail
  · have ht : x.tmod y = 0 := by assumption
    have HF := Lib.hid (F1.out ht)
    refine (lib_Itoa _ (by omega) (by omega) _ (hE2.drewN _)).mono ?_
    rintro e w3 ⟨rfl, hq3⟩
    have hQ3 : Q w w3 := hQ2.trans ((Below.drewN (Below.refl _ w2) _).trans hq3 |>.mono hQ2.size)
    go_wp2_with fail
    refine (lib_Itoa _ (by omega) (by omega) _ (hE.q hQ3)).mono ?_
    rintro e w4 ⟨rfl, hq4⟩
    go_wp2
    go_ret3
    exact ⟨by rw [HF.out.1, HF.out.2]; first | rfl | (rw [ht]; rfl), hQ3.trans (hq4.mono hQ3.size)⟩
  · have ht : ¬ x.tmod y = 0 := by assumption
    have hs : (x.tmod y != 0) = true ∧ (!decide (x.tmod y < 0) == decide (y < 0)) = true := by assumption
    have HF := Lib.hid (F3.out ht (by simpa using hs.2))
    clear hs
    refine (lib_Itoa _ (by omega) (by omega) _ (hE2.drewN _)).mono ?_
    rintro e w3 ⟨rfl, hq3⟩
    have hQ3 : Q w w3 := hQ2.trans ((Below.drewN (Below.refl _ w2) _).trans hq3 |>.mono hQ2.size)
    go_wp2_with fail
    refine (lib_Itoa _ (by omega) (by omega) _ (hE.q hQ3)).mono ?_
    rintro e w4 ⟨rfl, hq4⟩
    go_wp2
    go_ret3
    exact ⟨by rw [HF.out.1, HF.out.2]; rfl, hQ3.trans (hq4.mono hQ3.size)⟩
  · have ht : ¬ x.tmod y = 0 := by assumption
    have hs : (x.tmod y != 0) = false ∨ (!decide (x.tmod y < 0) == decide (y < 0)) = false := by assumption
    have HF := Lib.hid (F2.out ht (hs.elim (fun h => absurd h (by simp [ht])) (fun h => by simpa using h)))
    clear hs
    refine (lib_Itoa _ (by omega) (by omega) _ (hE2.drewN _)).mono ?_
    rintro e w3 ⟨rfl, hq3⟩
    have hQ3 : Q w w3 := hQ2.trans ((Below.drewN (Below.refl _ w2) _).trans hq3 |>.mono hQ2.size)
    go_wp2_with fail
    refine (lib_Itoa _ (by omega) (by omega) _ (hE.q hQ3)).mono ?_
    rintro e w4 ⟨rfl, hq4⟩
    go_wp2
    go_ret3
    exact ⟨by rw [HF.out.1, HF.out.2]; rfl, hQ3.trans (hq4.mono hQ3.size)⟩
end Go.Proofs.YtohonlboaddppaaGreatDoor
