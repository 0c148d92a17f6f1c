/-
  Walks: the package integer where numbers are short.; Walks: the functions of package integer at short numerals (at most 18 bytes).; Numbers with short parts, as the program reads them (nativeOf): just the numbers whose parts have at most 8 digits.; Fractions and their numerals.; The form of a number's string, as rational.cut asks it.; Square roots of integers, and the normal form of the root of an integer: plain mathematics.
-/
import Derived.Test.YtlbjjkmfcgcodaaGreatDoorG01
import Derived.Test.YtlbjjkmfcgcodaaGreatDoorG00
import Derived.Test.YtlbjjkmfcgcodaaGreatDoorMA
import Derived.Lib.BitFns
namespace Go.Proofs.YtlbjjkmfcgcodaaGreatDoor
open Go.RowKit Kp
theorem beq48 {c : UInt8} (h : c ≠ 48) : ((c.toNat : Int) == 48) = false := by rw [toNat48]; simpa using h
set_option maxHeartbeats 400000 in
theorem integer_Check_zero (w : World) :
    Calls Tryz.prog 123 #[.string ⟨[48].toArray⟩] w fun e w' => e = .returned (.int .i64 0) ∧ Q w w' := by
  go_enter Tryz.func123, Tryz.ntmps123
  go_wp2_with (first | (go_at_call 87; refine (lib_TrimMinus [48] _).mono ?_; rintro e w1 ⟨rfl, rfl⟩; rw [show unsig [48] = [48] from rfl]) | (go_at_call 170; refine (lib_TrimDigits [48] (by decide) _).mono ?_; rintro e w1 ⟨rfl, hq⟩; rw [show noDig [48] = [] from by decide]))
  go_ret
  exact ⟨rfl, hq⟩
set_option maxHeartbeats 400000 in
theorem integer_Check (a : Str) (hl : a.length ≤ 1000000000) (w : World) :
    Calls Tryz.prog 123 #[.string ⟨a.toArray⟩] w fun e w' => e = .returned (.int .i64 (ichk a)) ∧ Q w w' := by
  by_cases h48 : a = [48]
  · subst h48; rw [ichk_48]; exact integer_Check_zero w
  have hu := unsig_len a
  by_cases hn : unsig a = []
  · rw [ichk_empty hn]
    go_enter Tryz.func123, Tryz.ntmps123
    go_wp2_with (go_at_call 87; refine (lib_TrimMinus a _).mono ?_; rintro e w1 ⟨rfl, rfl⟩; rw [hn])
    go_ret
    exact ⟨rfl, Below.refl _ _⟩
  have hne : (unsig a).isEmpty = false := by simpa using hn
  have hpos : 0 < (unsig a).length := List.length_pos_iff.2 hn
  by_cases h0 : at0 (unsig a) 0 = 48
  · rw [ichk_zero hn h0 h48]
    have hb : ((((at0 (unsig a) 0).toNat : Int)) == 48) = true := by rw [h0]; rfl
    clear h0
    go_enter Tryz.func123, Tryz.ntmps123
    go_wp2_with (go_at_call 87; refine (lib_TrimMinus a _).mono ?_; rintro e w1 ⟨rfl, rfl⟩)
    go_ret
    exact ⟨rfl, Below.refl _ _⟩
  have hb := beq48 h0
  by_cases hd : AllDig (unsig a)
  · have hN : (noDig (unsig a)).isEmpty = true := by rw [(noDig_nil _).2 hd]; rfl
    have HC := Lib.hid (ichk_rest hn h0 hd)
    clear h0 hd
    by_cases h3 : 300 < (unsig a).length
    all_goals
      go_enter Tryz.func123, Tryz.ntmps123
      go_wp2_with (first | (go_at_call 87; refine (lib_TrimMinus a _).mono ?_; rintro e w1 ⟨rfl, rfl⟩) | (go_at_call 170; refine (lib_TrimDigits _ (by omega) _).mono ?_; rintro e w1 ⟨rfl, hq⟩))
      go_ret
      refine ⟨ret_int ?_, hq⟩
      rw [HC.out]
      simp [h3]
  · have hN : (noDig (unsig a)).isEmpty = false := by
      have : noDig (unsig a) ≠ [] := fun e => hd ((noDig_nil _).1 e)
      simpa using this
    rw [ichk_digits hd]
    clear h0 hd
    go_enter Tryz.func123, Tryz.ntmps123
    go_wp2_with (first | (go_at_call 87; refine (lib_TrimMinus a _).mono ?_; rintro e w1 ⟨rfl, rfl⟩) | (go_at_call 170; refine (lib_TrimDigits _ (by omega) _).mono ?_; rintro e w1 ⟨rfl, hq⟩))
    go_ret
    exact ⟨rfl, hq⟩
set_option maxHeartbeats 400000 in
theorem integer_both (a b : Str) (ha : a.length ≤ 1000000000) (hb : b.length ≤ 1000000000) (w : World) :
    Calls Tryz.prog 72 #[.string ⟨a.toArray⟩, .string ⟨b.toArray⟩] w fun e w' => e = .returned (.int .i64 (if ichk a = 0 then ichk b else ichk a)) ∧ Q w w' := by
  by_cases h : ichk a = 0
  · have H := Lib.hid h
    have hb2 : (ichk a == 0) = true := by simpa using h
    have hb3 : (ichk a != 0) = false := by simpa using h
    clear h
    go_enter Tryz.func72, Tryz.ntmps72
    go_wp2_with fail
    refine (integer_Check a ha _).mono ?_
    rintro e w1 ⟨rfl, hq⟩
    go_wp2_with fail
    refine (integer_Check b hb _).mono ?_
    rintro e w2 ⟨rfl, hq2⟩
    go_wp2
    go_ret
    exact ⟨ret_int (by first | rfl | (rw [if_pos H.out]; rfl)), hq.trans (hq2.mono hq.size)⟩
  · have H := Lib.hid h
    have hb2 : (ichk a == 0) = false := by simpa using h
    have hb3 : (ichk a != 0) = true := by simpa using h
    clear h
    go_enter Tryz.func72, Tryz.ntmps72
    go_wp2_with fail
    refine (integer_Check a ha _).mono ?_
    rintro e w1 ⟨rfl, hq⟩
    go_wp2_with fail
    go_ret
    exact ⟨ret_int (by first | rfl | (rw [if_neg H.out]; rfl)), hq⟩
set_option maxHeartbeats 400000 in
theorem integer_small (x y : Int) (hx : (Lib.itoa x).length ≤ 18) (hy : (Lib.itoa y).length ≤ 18) (w : World) :
    Calls Tryz.prog 73 #[.string ⟨(Lib.itoa x).toArray⟩, .string ⟨(Lib.itoa y).toArray⟩, .int .i64 18] w fun e w' => e = .returned (.tuple #[.int .i64 x, .int .i64 y, .bool true]) ∧ Q w w' := by
  go_enter Tryz.func73, Tryz.ntmps73
  go_wp2_with fail
  refine (lib_Atoi x hx _).mono ?_
  rintro e w1 ⟨rfl, hq⟩
  go_wp2_with fail
  refine (lib_Atoi y hy _).mono ?_
  rintro e w2 ⟨rfl, hq2⟩
  go_wp2_with fail
  go_quiet (fail)
  go_wp2
  go_ret3
  exact ⟨rfl, Below.drewN (hq.trans (hq2.mono hq.size)) _⟩
end Go.Proofs.YtlbjjkmfcgcodaaGreatDoor
namespace Go.Proofs.YtlbjjkmfcgcodaaGreatDoor
open Go.RowKit Kp
theorem integer_both_ok (x y : Int) (hx : lim x = false) (hy : lim y = false) (w : World) :
    Calls Tryz.prog 72 #[.string ⟨(Lib.itoa x).toArray⟩, .string ⟨(Lib.itoa y).toArray⟩] w fun e w' => e = .returned (.int .i64 0) ∧ Q w w' := by
  have h1 := itoa_len x hx
  have h2 := itoa_len y hy
  refine (integer_both (Lib.itoa x) (Lib.itoa y) (by omega) (by omega) w).mono ?_
  rintro e w' ⟨rfl, hq⟩
  exact ⟨ret_int (by rw [ichk_itoa, hx, ichk_itoa, hy]; rfl), hq⟩
def GcdRelZ (w : World) (g : Nat) (x y : Value) (wr : World) : Prop :=
  ∃ (p q : Int), x = .int .i64 p ∧ y = .int .i64 q ∧ p.natAbs ≤ 1000000000000000000 ∧ q.natAbs ≤ 1000000000000000000 ∧ Nat.gcd p.natAbs q.natAbs = g ∧ Q w wr ∧ Env wr
theorem max_neg (p : Int) : max p (-p) = p.natAbs := by omega
set_option maxHeartbeats 400000 in
theorem integer_Gcd_short (x y : Int) (hx : (Lib.itoa x).length ≤ 18) (hy : (Lib.itoa y).length ≤ 18) (w : World) (hE : Env w) :
    Calls Tryz.prog 79 #[.string ⟨(Lib.itoa x).toArray⟩, .string ⟨(Lib.itoa y).toArray⟩] w fun e w' => e = .returned (.tuple #[.string ⟨(Lib.itoa (Nat.gcd x.natAbs y.natAbs : Int)).toArray⟩, .int .i64 0]) ∧ Q w w' := by
  have hx1 := short_abs hx
  have hy1 := short_abs hy
  go_enter Tryz.func79, Tryz.ntmps79
  go_wp2_with fail
  refine (integer_both_ok x y (short_lim hx) (short_lim hy) _).mono ?_
  rintro e w1 ⟨rfl, hq⟩
  go_wp2_with fail
  refine (integer_small x y hx hy _).mono ?_
  rintro e w2 ⟨rfl, hq2⟩
  have hQ2 : Q w w2 := hq.trans (hq2.mono hq.size)
  have hE2 := hE.q hQ2
  go_wp2_with fail
  go_loopw [7, 8] (GcdRelZ w (Nat.gcd x.natAbs y.natAbs)) (fun _ y _ => (intOf y).natAbs)
  case atStart => exact ⟨x, y, rfl, rfl, by omega, by omega, rfl, hQ2, hE2⟩
  case round =>
    obtain ⟨p, q, rfl, rfl, hp, hq, hg, hQ, hEr⟩ := hrel
    have HG := Lib.hid hg; clear hg
    by_cases h0 : q = 0
    · subst h0
      have hmx := max_neg p
      go_wp2_with fail
      refine (lib_Itoa _ (by omega) (by omega) _ hEr).mono ?_
      rintro e w3 ⟨rfl, hq3⟩
      go_wp2
      go_ret2
      have := HG.out
      simp at this
      exact ⟨by rw [← this]; rfl, hQ.trans (hq3.mono hQ.size)⟩
    · have hne : (q == 0) = false := by simp; omega
      have h1 : (p.tmod q).natAbs = p.natAbs % q.natAbs := Int.natAbs_tmod ..
      have hm := Nat.mod_lt p.natAbs (show 0 < q.natAbs by omega)
      go_wp2_with fail
      go_quiet (fail)
      go_wp2
      go_roundw
      case rel => exact ⟨q, p.tmod q, rfl, rfl, by omega, by omega, by rw [← HG.out, h1, ← gcd_step], Below.drewN hQ _, hEr.drewN _⟩
      case measure => simp only [intOf]; omega
set_option maxHeartbeats 400000 in
theorem integer_Mul_short (x y : Int) (hx : (Lib.itoa x).length + (Lib.itoa y).length ≤ 18) (w : World) (hE : Env w) :
    Calls Tryz.prog 39 #[.string ⟨(Lib.itoa x).toArray⟩, .string ⟨(Lib.itoa y).toArray⟩] w fun e w' => e = .returned (.tuple #[.string ⟨(Lib.itoa (x * y)).toArray⟩, .int .i64 0]) ∧ Q w w' := by
  have hx1 := short_abs (x := x) (by omega)
  have hb := mul_bound hx
  go_enter Tryz.func39, Tryz.ntmps39
  go_wp2_with fail
  refine (integer_both_ok x y (short_lim (by omega)) (short_lim (by omega)) _).mono ?_
  rintro e w1 ⟨rfl, hq⟩
  go_wp2_with fail
  refine (integer_small x y (by omega) (by omega) _).mono ?_
  rintro e w2 ⟨rfl, hq2⟩
  have hQ2 : Q w w2 := hq.trans (hq2.mono hq.size)
  have hE2 := hE.q hQ2
  go_wp2_with fail
  refine (lib_Itoa _ (by omega) (by omega) _ hE2).mono ?_
  rintro e w3 ⟨rfl, hq3⟩
  go_wp2
  go_ret2
  exact ⟨rfl, hQ2.trans (hq3.mono hQ2.size)⟩
set_option maxHeartbeats 400000 in
theorem integer_Add_short (x y : Int) (hx : (Lib.itoa x).length ≤ 18) (hy : (Lib.itoa y).length ≤ 18) (w : World) (hE : Env w) :
    Calls Tryz.prog 92 #[.string ⟨(Lib.itoa x).toArray⟩, .string ⟨(Lib.itoa y).toArray⟩] w fun e w' => e = .returned (.tuple #[.string ⟨(Lib.itoa (x + y)).toArray⟩, .int .i64 0]) ∧ Q w w' := by
  have hx1 := short_abs hx
  have hy1 := short_abs hy
  go_enter Tryz.func92, Tryz.ntmps92
  go_wp2_with fail
  refine (integer_both_ok x y (short_lim hx) (short_lim hy) _).mono ?_
  rintro e w1 ⟨rfl, hq⟩
  go_wp2_with fail
  refine (integer_small x y hx hy _).mono ?_
  rintro e w2 ⟨rfl, hq2⟩
  have hQ2 : Q w w2 := hq.trans (hq2.mono hq.size)
  have hE2 := hE.q hQ2
  go_wp2_with fail
  refine (lib_Itoa _ (by omega) (by omega) _ hE2).mono ?_
  rintro e w3 ⟨rfl, hq3⟩
  go_wp2
  go_ret2
  exact ⟨rfl, hQ2.trans (hq3.mono hQ2.size)⟩
set_option maxHeartbeats 400000 in
theorem integer_Sub_short (x y : Int) (hx : (Lib.itoa x).length ≤ 18) (hy : (Lib.itoa y).length ≤ 18) (w : World) (hE : Env w) :
    Calls Tryz.prog 56 #[.string ⟨(Lib.itoa x).toArray⟩, .string ⟨(Lib.itoa y).toArray⟩] w fun e w' => e = .returned (.tuple #[.string ⟨(Lib.itoa (x - y)).toArray⟩, .int .i64 0]) ∧ Q w w' := by
  have hx1 := short_abs hx
  have hy1 := short_abs hy
  go_enter Tryz.func56, Tryz.ntmps56
  go_wp2_with fail
  refine (integer_both_ok x y (short_lim hx) (short_lim hy) _).mono ?_
  rintro e w1 ⟨rfl, hq⟩
  go_wp2_with fail
  refine (integer_small x y hx hy _).mono ?_
  rintro e w2 ⟨rfl, hq2⟩
  have hQ2 : Q w w2 := hq.trans (hq2.mono hq.size)
  have hE2 := hE.q hQ2
  go_wp2_with fail
  refine (lib_Itoa _ (by omega) (by omega) _ hE2).mono ?_
  rintro e w3 ⟨rfl, hq3⟩
  go_wp2
  go_ret2
  exact ⟨rfl, hQ2.trans (hq3.mono hQ2.size)⟩
set_option maxHeartbeats 400000 in
theorem integer_Compare_short (x y : Int) (hx : (Lib.itoa x).length ≤ 18) (hy : (Lib.itoa y).length ≤ 18) (w : World) :
    Calls Tryz.prog 46 #[.string ⟨(Lib.itoa x).toArray⟩, .string ⟨(Lib.itoa y).toArray⟩] w fun e w' => e = .returned (.tuple #[.int .i64 (Lib.compareInt x y), .int .i64 0]) ∧ Q w w' := by
  go_enter Tryz.func46, Tryz.ntmps46
  go_wp2_with fail
  refine (integer_both_ok x y (short_lim hx) (short_lim hy) _).mono ?_
  rintro e w1 ⟨rfl, hq⟩
  go_wp2_with fail
  refine (integer_small x y hx hy _).mono ?_
  rintro e w2 ⟨rfl, hq2⟩
  have hQ2 : Q w w2 := hq.trans (hq2.mono hq.size)
  go_wp2_with fail
  refine (Tryz.cmp_Compare_int _ _ _).mono ?_
  rintro e w3 ⟨rfl, rfl⟩
  go_wp2
  go_ret2
  exact ⟨rfl, hQ2⟩
set_option maxRecDepth 100000 in
set_option maxHeartbeats 800000 in
theorem integer_Divide_short (x y : Int) (hx : (Lib.itoa x).length ≤ 18) (hy : (Lib.itoa y).length ≤ 18) (hy0 : y ≠ 0) (w : World) (hE : Env w) :
    Calls Tryz.prog 80 #[.string ⟨(Lib.itoa x).toArray⟩, .string ⟨(Lib.itoa y).toArray⟩] w fun e w' => e = .returned (.tuple #[.string ⟨(Lib.itoa (x.fdiv y)).toArray⟩, .string ⟨(Lib.itoa (x.fmod y)).toArray⟩, .int .i64 0]) ∧ Q w w' := by
  have hx1 := short_abs hx
  have hy1 := short_abs hy
  have hn : (Lib.itoa y == [48]) = false := by
    rw [beq_eq_false_iff_ne, ← itoa_zero]; exact fun e => hy0 (itoa_inj e)
  have hy2 : (y == 0) = false := by simpa using hy0
  have hd1 := tdiv_abs x y
  have hm1 := tmod_abs x y hy0
  have hd2 : -1000000000000000000 ≤ x.tdiv y := by omega
  have hd3 : x.tdiv y ≤ 1000000000000000000 := by omega
  have hd4 : -1000000000000000000 ≤ x.tmod y := by omega
  have hd5 : x.tmod y ≤ 1000000000000000000 := by omega
  obtain ⟨f1, f2, f3⟩ := trunc_floor (x := x) hy0
  have F1 := Lib.hid f1
  have F2 := Lib.hid f2
  have F3 := Lib.hid f3
  clear f1 f2 f3 hd1 hm1
  go_enter Tryz.func80, Tryz.ntmps80
  go_wp2_with fail
  refine (integer_both_ok x y (short_lim hx) (short_lim hy) _).mono ?_
  rintro e w1 ⟨rfl, hq⟩
  go_wp2_with fail
  refine (integer_small x y hx hy _).mono ?_
  rintro e w2 ⟨rfl, hq2⟩
  have hQ2 : Q w w2 := hq.trans (hq2.mono hq.size)
  have hE2 := hE.q hQ2
  go_wp2_with fail
  go_quiet (fail)
  go_wp2_with fail
  · have ht : x.tmod y = 0 := by assumption
    have HF := Lib.hid (F1.out ht)
    refine (lib_Itoa _ (by omega) (by omega) _ (hE2.drewN _)).mono ?_
    rintro e w3 ⟨rfl, hq3⟩
    have hQ3 : Q w w3 := hQ2.trans ((Below.drewN (Below.refl _ w2) _).trans hq3 |>.mono hQ2.size)
    go_wp2_with fail
    refine (lib_Itoa _ (by omega) (by omega) _ (hE.q hQ3)).mono ?_
    rintro e w4 ⟨rfl, hq4⟩
    go_wp2
    go_ret3
    exact ⟨by rw [HF.out.1, HF.out.2]; first | rfl | (rw [ht]; rfl), hQ3.trans (hq4.mono hQ3.size)⟩
  · have ht : ¬ x.tmod y = 0 := by assumption
    have hs : (x.tmod y != 0) = true ∧ (!decide (x.tmod y < 0) == decide (y < 0)) = true := by assumption
    have HF := Lib.hid (F3.out ht (by simpa using hs.2))
    clear hs
    refine (lib_Itoa _ (by omega) (by omega) _ (hE2.drewN _)).mono ?_
    rintro e w3 ⟨rfl, hq3⟩
    have hQ3 : Q w w3 := hQ2.trans ((Below.drewN (Below.refl _ w2) _).trans hq3 |>.mono hQ2.size)
    go_wp2_with fail
    refine (lib_Itoa _ (by omega) (by omega) _ (hE.q hQ3)).mono ?_
    rintro e w4 ⟨rfl, hq4⟩
    go_wp2
    go_ret3
    exact ⟨by rw [HF.out.1, HF.out.2]; rfl, hQ3.trans (hq4.mono hQ3.size)⟩
  · have ht : ¬ x.tmod y = 0 := by assumption
    have hs : (x.tmod y != 0) = false ∨ (!decide (x.tmod y < 0) == decide (y < 0)) = false := by assumption
    have HF := Lib.hid (F2.out ht (hs.elim (fun h => absurd h (by simp [ht])) (fun h => by simpa using h)))
    clear hs
    refine (lib_Itoa _ (by omega) (by omega) _ (hE2.drewN _)).mono ?_
    rintro e w3 ⟨rfl, hq3⟩
    have hQ3 : Q w w3 := hQ2.trans ((Below.drewN (Below.refl _ w2) _).trans hq3 |>.mono hQ2.size)
    go_wp2_with fail
    refine (lib_Itoa _ (by omega) (by omega) _ (hE.q hQ3)).mono ?_
    rintro e w4 ⟨rfl, hq4⟩
    go_wp2
    go_ret3
    exact ⟨by rw [HF.out.1, HF.out.2]; rfl, hQ3.trans (hq4.mono hQ3.size)⟩
end Go.Proofs.YtlbjjkmfcgcodaaGreatDoor
namespace Kp
open Go.Lib (decDigits itoa nDigits)
theorem natPre_prefix (s : Str) : AllDig (s.take (natPre s)) ∧ natPre s ≤ s.length ∧ natPre s ≤ 9 ∧ (natPre s = s.length ∨ natPre s = 9 ∨ isDig (at0 s (natPre s)) = false) := by
  suffices h : ∃ k, AllDig (s.take k) ∧ k ≤ s.length ∧ k ≤ 9 ∧ (k = s.length ∨ k = 9 ∨ isDig (at0 s k) = false) by
    obtain ⟨k, h1, h2, h3, h4⟩ := h
    have := natPre_of h1 h2 h3 h4
    rw [this]; exact ⟨h1, h2, h3, h4⟩
  have step : ∀ n k, 9 - k = n → AllDig (s.take k) → k ≤ s.length → k ≤ 9 → ∃ k, AllDig (s.take k) ∧ k ≤ s.length ∧ k ≤ 9 ∧ (k = s.length ∨ k = 9 ∨ isDig (at0 s k) = false) := by
    intro n
    induction n with
    | zero => intro k hk h1 h2 h3; exact ⟨k, h1, h2, h3, .inr (.inl (by omega))⟩
    | succ n ih =>
      intro k hk h1 h2 h3
      by_cases hl : k = s.length
      · exact ⟨k, h1, h2, h3, .inl hl⟩
      · cases hd : isDig (at0 s k) with
        | false => exact ⟨k, h1, h2, h3, .inr (.inr hd)⟩
        | true => exact ih (k + 1) (by omega) (h1.snoc (by omega) hd) (by omega) (by omega)
  exact step 9 0 rfl (by simp [AllDig]) (by omega) (by omega)
theorem natOk_parts {s : Str} (h : natOk s = true) : s = decDigits (natN s) ++ natRest s ∧ natN s < 100000000 ∧ (natRest s = [] ∨ isDig (at0 (natRest s) 0) = false) := by
  obtain ⟨h1, h2, h3, h4⟩ := natPre_prefix s
  have hk := h
  unfold natOk at hk
  rw [decide_eq_true_eq] at hk
  obtain ⟨k0, k8, kz⟩ := hk
  have en : natN s = nval (s.take (natPre s)) := by unfold natN; rw [h]; rfl
  have er : natRest s = s.drop (natPre s) := by unfold natRest; rw [h]; rfl
  have hne : s.take (natPre s) ≠ [] := by
    intro e
    have := congrArg List.length e
    rw [List.length_take, List.length_nil] at this; omega
  have hd : decDigits (natN s) = s.take (natPre s) := by
    rw [en]
    refine decDigits_nval _ hne h1 (fun e => ?_)
    have h00 : at0 s 0 = 48 := by
      cases s with
      | nil => simp at h2; omega
      | cons c r =>
        rw [show natPre (c :: r) = (natPre (c :: r) - 1) + 1 by omega, List.take_succ_cons] at e
        simp only [List.head?_cons, Option.some.injEq] at e
        exact e
    have h1' : natPre s = 1 := by
      by_cases h' : 1 < natPre s
      · exact absurd ⟨h', h00⟩ kz
      · omega
    rw [h1']
    cases s with
    | nil => simp at h2; omega
    | cons c r => simp only [at0, List.getD_cons_zero] at h00; subst h00; rfl
  refine ⟨by rw [hd, er, List.take_append_drop], ?_, ?_⟩
  · have h8 : natN s < 10 ^ 8 := by
      rw [en]; exact Nat.lt_of_lt_of_le (nval_take_lt h1) (Nat.pow_le_pow_right (by decide) k8)
    simpa using h8
  · rw [er]
    rcases h4 with e | e | e
    · left; rw [e]; exact List.drop_length
    · omega
    · right
      have : at0 (s.drop (natPre s)) 0 = at0 s (natPre s) := by
        unfold at0; rw [List.getD_eq_getElem?_getD, List.getElem?_drop, ← List.getD_eq_getElem?_getD]; rfl
      rw [this]; exact e
theorem natOk_of {n : Nat} {r : Str} (hn : n < 100000000) (hr : r = [] ∨ isDig (at0 r 0) = false) :
    natOk (decDigits n ++ r) = true ∧ natN (decDigits n ++ r) = n ∧ natRest (decDigits n ++ r) = r := by
  have hlen : (decDigits n).length ≤ 8 := (decDigits_len_le n 8 (by decide)).2 (by simpa using hn)
  have hpos := List.length_pos_iff.2 (decDigits_ne n)
  have htake : (decDigits n ++ r).take (decDigits n).length = decDigits n := List.take_left
  have hdrop : (decDigits n ++ r).drop (decDigits n).length = r := List.drop_left
  have hpre : natPre (decDigits n ++ r) = (decDigits n).length := by
    refine natPre_of (by rw [htake]; exact decDigits_dig n) (by simp) (by omega) ?_
    rcases hr with rfl | hr
    · left; simp
    · right; right
      have : at0 (decDigits n ++ r) (decDigits n).length = at0 r 0 := by
        unfold at0
        rw [List.getD_eq_getElem?_getD, List.getElem?_append_right (Nat.le_refl _), Nat.sub_self, ← List.getD_eq_getElem?_getD]
      rw [this]; exact hr
  have hz : (decDigits n).length = 1 ∨ at0 (decDigits n ++ r) 0 ≠ 48 := by
    by_cases h0 : 0 < n
    · right
      intro e
      have hh := decDigits_head n h0
      cases hd : decDigits n with
      | nil => exact decDigits_ne n hd
      | cons c t =>
        rw [hd] at e hh
        simp only [at0, List.cons_append, List.getD_cons_zero] at e
        subst e; exact hh rfl
    · left
      have : n = 0 := by omega
      subst this; simp [decDigits]
  obtain ⟨a, b, c⟩ := nat_good hpre (by omega) hlen hz
  exact ⟨a, by rw [b, htake, nval_decDigits], by rw [c, hdrop]⟩
def natOf (a : Str) : Option (Int × Int) :=
  if natOk (unsig a) = false ∨ (a.head? = some 45 ∧ natN (unsig a) = 0) then none
  else if natRest (unsig a) = [] then some (if a.head? = some 45 then -(natN (unsig a) : Int) else natN (unsig a), 1)
  else if at0 (natRest (unsig a)) 0 ≠ 47 then none
  else if natOk (dropS (natRest (unsig a)) 1) = false ∨ natRest (dropS (natRest (unsig a)) 1) ≠ [] ∨ natN (dropS (natRest (unsig a)) 1) < 2 ∨ Nat.gcd (natN (unsig a)) (natN (dropS (natRest (unsig a)) 1)) ≠ 1 then none
  else some (if a.head? = some 45 then -(natN (unsig a) : Int) else natN (unsig a), natN (dropS (natRest (unsig a)) 1))
def Small8 (q : Rat) : Prop := q.num.natAbs < 100000000 ∧ q.den < 100000000
theorem unsig_cons {a : Str} (h : a.head? = some 45) : a = 45 :: unsig a := by
  cases a with
  | nil => cases h
  | cons c r => simp only [List.head?_cons, Option.some.injEq] at h; subst h; simp [unsig]
theorem unsig_same {a : Str} (h : a.head? ≠ some 45) : unsig a = a := by unfold unsig; rw [if_neg h]
theorem natOf_some {a : Str} {n d : Int} (h : natOf a = some (n, d)) : ∃ q : Rat, a = rstr q ∧ q.num = n ∧ (q.den : Int) = d ∧ Small8 q := by
  unfold natOf at h
  split at h
  · cases h
  · next hc1 =>
    simp only [not_or, Bool.not_eq_false, not_and] at hc1
    obtain ⟨ok1, hz⟩ := hc1
    obtain ⟨e1, b1, _⟩ := natOk_parts ok1
    have hit : ∀ r, unsig a = decDigits (natN (unsig a)) ++ r → a = itoa (if a.head? = some 45 then -(natN (unsig a) : Int) else natN (unsig a)) ++ r := by
      intro r er
      by_cases hm : a.head? = some 45
      · rw [if_pos hm]
        have hz' := hz hm
        rw [itoa_neg (by omega), show (-(natN (unsig a) : Int)).natAbs = natN (unsig a) by omega, List.cons_append, ← er]
        exact unsig_cons hm
      · rw [if_neg hm, itoa_nonneg (by omega), Int.toNat_natCast, ← er]
        exact (unsig_same hm).symm
    have hab : ((if a.head? = some 45 then -(natN (unsig a) : Int) else natN (unsig a)) : Int).natAbs = natN (unsig a) := by split <;> omega
    split at h
    · next hr =>
      simp only [Option.some.injEq, Prod.mk.injEq] at h
      have ea := hit [] (by rw [← hr]; exact e1)
      rw [List.append_nil] at ea
      rw [h.1] at ea hab
      refine ⟨⟨n, 1, by decide, by simp⟩, ?_, rfl, by simpa using h.2, by rw [Small8]; exact ⟨by simp only; omega, by simp⟩⟩
      unfold rstr; rw [if_pos rfl]; exact ea
    · next hr =>
      split at h
      · cases h
      · next h47 =>
        split at h
        · cases h
        · next hc2 =>
          simp only [not_or, Bool.not_eq_false, Classical.not_not] at hc2
          obtain ⟨ok2, r2, d2, hg⟩ := hc2
          obtain ⟨e2, b2, _⟩ := natOk_parts ok2
          simp only [Option.some.injEq, Prod.mk.injEq] at h
          have h47' : at0 (natRest (unsig a)) 0 = 47 := Classical.not_not.1 h47
          have er : natRest (unsig a) = 47 :: decDigits (natN (dropS (natRest (unsig a)) 1)) := by
            rw [r2, List.append_nil] at e2
            rw [← e2]
            cases hh : natRest (unsig a) with
            | nil => exact absurd hh hr
            | cons c t => rw [hh] at h47'; simp only [at0, List.getD_cons_zero] at h47'; subst h47'; rfl
          have ea := hit _ e1
          rw [er] at ea
          rw [h.1] at ea hab
          refine ⟨⟨n, natN (dropS (natRest (unsig a)) 1), by omega, by rw [Nat.Coprime, hab]; exact hg⟩, ?_, rfl, h.2, ⟨by simp only; omega, by simp only; omega⟩⟩
          unfold rstr; simp only; rw [if_neg (by omega)]; exact ea
theorem head_itoa (z : Int) (r : Str) : (itoa z ++ r).head? = some 45 ↔ z < 0 := by
  by_cases h : z < 0
  · rw [itoa_neg h]; simp [h]
  · rw [itoa_nonneg (by omega), head?_app _ _ (decDigits_ne _)]
    simp only [h, iff_false]
    exact decDigits_head_ne_minus _
theorem unsig_itoa_app (z : Int) (r : Str) : unsig (itoa z ++ r) = decDigits z.natAbs ++ r := by
  by_cases h : z < 0
  · rw [itoa_neg h]; simp [unsig]
  · rw [unsig_same (fun e => h ((head_itoa z r).1 e)), itoa_nonneg (by omega), show z.toNat = z.natAbs by omega]
theorem sign_natAbs (z : Int) (r : Str) : (if (itoa z ++ r).head? = some 45 then -(z.natAbs : Int) else z.natAbs) = z := by
  by_cases h : z < 0
  · rw [if_pos ((head_itoa z r).2 h)]; omega
  · rw [if_neg (fun e => h ((head_itoa z r).1 e))]; omega
theorem natOf_small {q : Rat} (h : Small8 q) : natOf (rstr q) = some (q.num, (q.den : Int)) := by
  obtain ⟨h1, h2⟩ := h
  unfold rstr
  split
  · next hd =>
    have e := unsig_itoa_app q.num []
    have es := sign_natAbs q.num []
    have hh := head_itoa q.num []
    rw [List.append_nil, List.append_nil] at e
    rw [List.append_nil] at es hh
    obtain ⟨a, b, c⟩ := natOk_of (r := []) h1 (.inl rfl)
    rw [List.append_nil] at a b c
    unfold natOf
    rw [e, a, b, c, if_neg (by rintro (x | ⟨x, y⟩); · cases x
                               · have := hh.1 x; omega), if_pos rfl, es, hd]; rfl
  · next hd =>
    have e := unsig_itoa_app q.num (47 :: decDigits q.den)
    have es := sign_natAbs q.num (47 :: decDigits q.den)
    have hh := head_itoa q.num (47 :: decDigits q.den)
    obtain ⟨a, b, c⟩ := natOk_of (r := 47 :: decDigits q.den) h1 (.inr rfl)
    obtain ⟨a2, b2, c2⟩ := natOk_of (r := []) h2 (.inl rfl)
    rw [List.append_nil] at a2 b2 c2
    have ed : dropS (47 :: decDigits q.den) 1 = decDigits q.den := rfl
    have hnz := q.den_nz
    unfold natOf
    rw [e, a, b, c, if_neg (by rintro (x | ⟨x, y⟩); · cases x
                               · have := hh.1 x; omega), if_neg (by simp), if_neg (by simp [at0]), ed, a2, b2, c2, if_neg, es]
    rintro (x | x | x | x)
    · cases x
    · exact x rfl
    · omega
    · exact x q.reduced
theorem natOf_none_of {q : Rat} (h : ¬ Small8 q) : natOf (rstr q) = none := by
  cases hn : natOf (rstr q) with
  | none => rfl
  | some p =>
    obtain ⟨q', e, _, _, hs⟩ := natOf_some (n := p.1) (d := p.2) (by rw [hn])
    rw [← rstr_inj e] at hs
    exact absurd hs h
theorem small_rlim {q : Rat} (h : Small8 q) : rlim q = false := by
  unfold rlim
  rw [lim_small (x := q.num) (by have := h.1; omega), lim_small (x := (q.den : Int)) (by have := h.2; omega)]; rfl
theorem natOf_bad {a : Str} (h : rchk a ≠ 0) : natOf a = none := by
  cases hn : natOf a with
  | none => rfl
  | some p =>
    obtain ⟨q', e, _, _, hs⟩ := natOf_some (n := p.1) (d := p.2) (by rw [hn])
    rw [e, rchk_rstr, small_rlim hs] at h
    exact absurd rfl h
theorem natN_lt (s : Str) : natN s < 100000000 := by
  cases h : natOk s with
  | true => exact (natOk_parts h).2.1
  | false => unfold natN; rw [h]; simp
theorem natOk_ne {s : Str} (h : natOk s = true) : s ≠ [] := by
  intro e; subst e; simp [natOk, natPre] at h
theorem natRest_len (s : Str) : (natRest s).length ≤ s.length := by
  unfold natRest; split
  · simp
  · simp
end Kp
namespace Kp
open Go.Lib (decDigits itoa nDigits)
theorem tdiv_bounds (n : Int) (g : Nat) {B : Int} (h : (n.natAbs : Int) ≤ B) : -B ≤ n.tdiv g ∧ n.tdiv g ≤ B := by
  have := tdiv_abs n g
  omega
theorem divInt_pos (n : Int) (k : Nat) (hk : 0 < k) : (Rat.divInt n k).num = n.tdiv (Nat.gcd n.natAbs k) ∧ ((Rat.divInt n k).den : Int) = (k : Int) / (Nat.gcd n.natAbs k : Int) := by
  have e : Rat.divInt n k = Rat.normalize n k (by omega) := by rw [Rat.normalize_eq_mkRat, Rat.divInt_ofNat]
  rw [e, Rat.normalize_eq]
  simp only
  have h1 : ((Nat.gcd n.natAbs k : Nat) : Int) ∣ n := by rw [← Int.dvd_natAbs]; exact Int.natCast_dvd_natCast.2 (Nat.gcd_dvd_left ..)
  refine ⟨?_, ?_⟩
  · rw [Int.tdiv_eq_ediv_of_dvd h1]
  · rw [Int.natCast_ediv]
theorem rstr_divInt (n : Int) (k : Nat) (hk : 0 < k) :
    rstr (Rat.divInt n k) = if (k : Int) / (Nat.gcd n.natAbs k : Int) = 1 then itoa (n.tdiv (Nat.gcd n.natAbs k)) else itoa (n.tdiv (Nat.gcd n.natAbs k)) ++ 47 :: itoa ((k : Int) / (Nat.gcd n.natAbs k : Int)) := by
  obtain ⟨h1, h2⟩ := divInt_pos n k hk
  unfold rstr
  rw [dec_eq_itoa, h1, h2]
  by_cases h : (Rat.divInt n k).den = 1
  · rw [if_pos h, if_pos (by omega)]
  · rw [if_neg h, if_neg (by omega)]
end Kp
namespace Kp
open Go.Lib (decDigits itoa nDigits)
def digN (s : Str) : Nat := if 1 < (s.takeWhile isDig).length ∧ at0 s 0 = 48 then 0 else (s.takeWhile isDig).length
theorem takeWhile_len_of {s : Str} {k : Nat} (h : AllDig (s.take k)) (hk : k ≤ s.length) (stop : k = s.length ∨ isDig (at0 s k) = false) : (s.takeWhile isDig).length = k := by
  by_cases hl : k = s.length
  · rw [hl, List.take_length] at h
    rw [takeWhile_all _ _ h, hl]
  · have hd := stop.resolve_left hl
    have hlt : k < s.length := by omega
    have e : s = s.take k ++ at0 s k :: s.drop (k + 1) := by
      rw [at0_get s k hlt, ← List.drop_eq_getElem_cons, List.take_append_drop]
    have := takeWhile_stop isDig (at0 s k) (s.drop (k + 1)) hd (s.take k) h
    rw [← e] at this
    rw [this, List.length_take]; omega
theorem takeWhile_len_le (s : Str) : (s.takeWhile isDig).length ≤ s.length := (List.takeWhile_sublist _).length_le
theorem takeWhile_full {s : Str} (h : (s.takeWhile isDig).length = s.length) : AllDig s := by
  have e : s.takeWhile isDig = s := (List.takeWhile_prefix _).eq_of_length h
  intro c hc
  have := List.all_takeWhile (p := isDig) (l := s)
  rw [List.all_eq_true, e] at this
  exact this c hc
theorem digN_good {s : Str} : (digN s ≠ 0 ∧ ¬ digN s < s.length) ↔ (s ≠ [] ∧ AllDig s ∧ (s.head? = some 48 → s = [48])) := by
  have hle := takeWhile_len_le s
  constructor
  · rintro ⟨h0, h1⟩
    unfold digN at h0 h1
    split at h0
    · exact absurd rfl h0
    · next hz =>
      rw [if_neg hz] at h1
      have hfull : (s.takeWhile isDig).length = s.length := by omega
      have hne : s ≠ [] := by intro e; subst e; simp at h0
      refine ⟨hne, takeWhile_full hfull, fun e => ?_⟩
      rw [head_at0 hne] at e
      have e48 := Option.some.inj e
      have h1' : s.length = 1 := by
        by_cases hc : 1 < s.length
        · exact absurd ⟨by omega, e48⟩ hz
        · have := List.length_pos_iff.2 hne; omega
      obtain ⟨c, rfl⟩ := List.length_eq_one_iff.1 h1'
      simp only [at0, List.getD_cons_zero] at e48; rw [e48]
  · rintro ⟨hne, hd, hz⟩
    have hl : (s.takeWhile isDig).length = s.length := by rw [takeWhile_all _ _ hd]
    have hpos := List.length_pos_iff.2 hne
    have e : digN s = s.length := by
      unfold digN
      rw [if_neg, hl]
      rintro ⟨a, b⟩
      rw [hl] at a
      have := hz (by rw [head_at0 hne, b])
      rw [this] at a; simp at a
    omega
theorem ichk_eleven (n : Str) : ichk n = 11 ↔ (digN (unsig n) = 0 ∨ digN (unsig n) < (unsig n).length ∨ (n.head? = some 45 ∧ unsig n = [48])) := by
  have hg := digN_good (s := unsig n)
  constructor
  · intro h
    by_cases h0 : digN (unsig n) = 0
    · exact .inl h0
    · by_cases h1 : digN (unsig n) < (unsig n).length
      · exact .inr (.inl h1)
      · obtain ⟨a, b, c⟩ := hg.1 ⟨h0, h1⟩
        right; right
        by_cases h48 : (unsig n).head? = some 48
        · have e := c h48
          refine ⟨?_, e⟩
          by_cases hm : n.head? = some 45
          · exact hm
          · rw [unsig_same hm] at e
            rw [e, ichk_48] at h; cases h
        · rw [head_at0 a] at h48
          rw [ichk_rest a (fun x => h48 (by rw [x])) b] at h
          split at h <;> cases h
  · intro h
    by_cases hA : unsig n = []
    · exact ichk_empty hA
    · by_cases hD : AllDig (unsig n)
      · by_cases hz : at0 (unsig n) 0 = 48 ∧ n ≠ [48]
        · exact ichk_zero hA hz.1 hz.2
        · exfalso
          have hgood : unsig n ≠ [] ∧ AllDig (unsig n) ∧ ((unsig n).head? = some 48 → unsig n = [48]) := by
            refine ⟨hA, hD, fun e => ?_⟩
            rw [head_at0 hA] at e
            have : n = [48] := Classical.byContradiction fun x => hz ⟨Option.some.inj e, x⟩
            rw [this]; rfl
          obtain ⟨a, b⟩ := hg.2 hgood
          rcases h with h | h | ⟨h, h2⟩
          · exact a h
          · exact b h
          · have : n = [48] := Classical.byContradiction fun x => hz ⟨by rw [h2]; rfl, x⟩
            rw [this] at h; simp at h
      · exact ichk_digits hD
theorem den_bad (d : Str) : (ichk d = 11 ∨ d.head? = some 45 ∨ d = [48] ∨ d = [49]) ↔ (digN d = 0 ∨ digN d < d.length ∨ d = [48] ∨ d = [49]) := by
  by_cases hm : d.head? = some 45
  · have hdig : digN d = 0 := by
      cases d with
      | nil => cases hm
      | cons c r =>
        simp only [List.head?_cons, Option.some.injEq] at hm
        subst hm
        have h45 : isDig 45 = false := by decide
        unfold digN
        rw [List.takeWhile_cons, h45]; simp
    simp [hm, hdig]
  · have := ichk_eleven d
    rw [unsig_same hm] at this
    rw [this]
    simp only [hm, false_and, or_false, false_or]
    constructor
    · rintro ((a | a) | a | a)
      · exact .inl a
      · exact .inr (.inl a)
      · exact .inr (.inr (.inl a))
      · exact .inr (.inr (.inr a))
    · rintro (a | a | a | a)
      · exact .inl (.inl a)
      · exact .inl (.inr a)
      · exact .inr (.inl a)
      · exact .inr (.inr a)
theorem rbad_iff (a : Str) : rbad a ↔ ((digN (unsig (numPart a)) = 0 ∨ digN (unsig (numPart a)) < (unsig (numPart a)).length ∨ ((numPart a).head? = some 45 ∧ unsig (numPart a) = [48])) ∨
    (hasSlash a = true ∧ (digN (denPart a) = 0 ∨ digN (denPart a) < (denPart a).length ∨ denPart a = [48] ∨ denPart a = [49]))) := by
  unfold rbad
  rw [ichk_eleven, den_bad]
theorem numPart_len (a : Str) : (numPart a).length ≤ a.length := (List.takeWhile_sublist _).length_le
theorem denPart_len (a : Str) : (denPart a).length ≤ a.length := by
  unfold denPart
  have h1 : (a.dropWhile (· ≠ 47)).length ≤ a.length := (List.dropWhile_sublist _).length_le
  rw [List.length_tail]
  have h2 : (a.dropWhile (fun x => decide (x ≠ 47))).length ≤ a.length := h1
  omega
theorem rstr_divInt_f (n : Int) (k : Nat) (hk : 0 < k) :
    rstr (Rat.divInt n k) = if (k : Int).fdiv (Nat.gcd n.natAbs k : Int) = 1 then itoa (n.fdiv (Nat.gcd n.natAbs k : Int)) else itoa (n.fdiv (Nat.gcd n.natAbs k : Int)) ++ 47 :: itoa ((k : Int).fdiv (Nat.gcd n.natAbs k : Int)) := by
  rw [rstr_divInt n k hk, Int.fdiv_eq_ediv_of_nonneg _ (by omega), Int.fdiv_eq_ediv_of_nonneg _ (by omega)]
  have h1 : ((Nat.gcd n.natAbs k : Nat) : Int) ∣ n := by rw [← Int.dvd_natAbs]; exact Int.natCast_dvd_natCast.2 (Nat.gcd_dvd_left ..)
  rw [Int.tdiv_eq_ediv_of_dvd h1]
theorem dec_len_mono {a b : Nat} (h : a ≤ b) : (decDigits a).length ≤ (decDigits b).length := by
  have p := List.length_pos_iff.2 (decDigits_ne b)
  have := (decDigits_len_le b _ p).1 (Nat.le_refl _)
  exact (decDigits_len_le a _ p).2 (by omega)
theorem itoa_len_mono {a b : Nat} {m : Nat} (h : a ≤ b) (hb : (itoa (b : Int)).length ≤ m) : (itoa (a : Int)).length ≤ m := by
  rw [← dec_eq_itoa] at *; exact Nat.le_trans (dec_len_mono h) hb
theorem itoa_len_eq (z : Int) : (itoa z).length = (decDigits z.natAbs).length + (if z < 0 then 1 else 0) := by
  by_cases h : z < 0
  · rw [itoa_neg h, if_pos h, List.length_cons]
  · rw [itoa_nonneg (by omega), if_neg h, show z.toNat = z.natAbs by omega]; rfl
theorem itoa_fdiv_len (n : Int) (g : Nat) (hn : (itoa n).length ≤ 18) : (itoa (n.fdiv g)).length ≤ 1000 := by
  have h := short_abs hn
  have hb : (n.fdiv g).natAbs ≤ 1000000000000000000 := by
    rw [Int.fdiv_eq_ediv_of_nonneg _ (by omega)]
    by_cases hg : g = 0
    · subst hg; simp
    · have h1 : n / (g : Int) ≤ n.natAbs := Int.le_trans (Int.ediv_le_ediv (by omega) (show n ≤ (n.natAbs : Int) by omega)) (Int.ediv_le_self _ (by omega))
      have h2 : -(n.natAbs : Int) ≤ n / (g : Int) := by
        rw [Int.le_ediv_iff_mul_le (by omega)]
        have : (n.natAbs : Int) * 1 ≤ n.natAbs * g := Int.mul_le_mul_of_nonneg_left (by omega) (by omega)
        rw [Int.neg_mul]; omega
      omega
  have h19 : (decDigits (n.fdiv g).natAbs).length ≤ 19 := (decDigits_len_le _ 19 (by decide)).2 (by
    have : (10 : Nat) ^ 19 = 10000000000000000000 := by decide
    omega)
  rw [itoa_len_eq]; split <;> omega
end Kp
namespace Kp
open Go.Lib (decDigits itoa nDigits)
def IsRoot (n r : Nat) : Prop := r * r ≤ n ∧ n < (r + 1) * (r + 1)
theorem IsRoot.unique {n r s : Nat} (h : IsRoot n r) (k : IsRoot n s) : r = s := by
  obtain ⟨h1, h2⟩ := h
  obtain ⟨k1, k2⟩ := k
  by_cases a : r < s
  · have : (r + 1) * (r + 1) ≤ s * s := Nat.mul_le_mul a a
    omega
  · by_cases b : s < r
    · have : (s + 1) * (s + 1) ≤ r * r := Nat.mul_le_mul b b
      omega
    · omega
def isqrt (n : Nat) : Nat := if h : n = 0 then 0 else if (2 * isqrt (n / 4) + 1) * (2 * isqrt (n / 4) + 1) ≤ n then 2 * isqrt (n / 4) + 1 else 2 * isqrt (n / 4)
termination_by n
decreasing_by all_goals omega
theorem isqrt_spec (n : Nat) : IsRoot n (isqrt n) := by
  induction n using Nat.strongRecOn with
  | _ n ih =>
    rw [isqrt]
    split
    · next h => subst h; exact ⟨Nat.le_refl _, by decide⟩
    · next h =>
      obtain ⟨h1, h2⟩ := ih (n / 4) (by omega)
      generalize isqrt (n / 4) = s at *
      have e1 : 2 * s * (2 * s) = 4 * (s * s) := by grind
      have e2 : (2 * s + 1 + 1) * (2 * s + 1 + 1) = 4 * ((s + 1) * (s + 1)) := by grind
      split
      · next hc => exact ⟨hc, by omega⟩
      · next hc => exact ⟨by omega, by omega⟩
theorem isqrt_of {n r : Nat} (h : IsRoot n r) : isqrt n = r := (isqrt_spec n).unique h
theorem isqrt_le (n : Nat) : isqrt n ≤ n := by
  have h := (isqrt_spec n).1
  by_cases h0 : isqrt n = 0
  · omega
  · have : isqrt n * 1 ≤ isqrt n * isqrt n := Nat.mul_le_mul_left _ (by omega)
    omega
theorem isqrt_small {n : Nat} (h : n < 2) : isqrt n = n := by
  have : n = 0 ∨ n = 1 := by omega
  rcases this with rfl | rfl
  · exact isqrt_of ⟨by decide, by decide⟩
  · exact isqrt_of ⟨by decide, by decide⟩
theorem lt_pow_bitLenAux : ∀ (f x : Nat), x < 2 ^ f → x < 2 ^ Go.Lib.bitLenAux f x
  | 0, x, h => h
  | f + 1, x, h => by
    simp only [Go.Lib.bitLenAux]
    split
    · next h0 => subst h0; decide
    · have := lt_pow_bitLenAux f (x / 2) (by rw [Nat.pow_succ] at h; omega)
      rw [Nat.add_comm, Nat.pow_succ]; omega
theorem bitLenAux_le : ∀ (f k x : Nat), x < 2 ^ k → Go.Lib.bitLenAux f x ≤ k
  | 0, _, _, _ => Nat.zero_le _
  | f + 1, k, x, h => by
    simp only [Go.Lib.bitLenAux]
    split
    · omega
    · cases k with
      | zero => simp at h; omega
      | succ k =>
        have := bitLenAux_le f k (x / 2) (by rw [Nat.pow_succ] at h; omega)
        omega
theorem lt_pow_bitLen {x : Nat} (h : x < 18446744073709551616) : x < 2 ^ Go.Lib.bitLen x := lt_pow_bitLenAux 64 x h
theorem bitLen_le {x k : Nat} (h : x < 2 ^ k) : Go.Lib.bitLen x ≤ k := bitLenAux_le 64 k x h
theorem start_ge {n : Nat} (h : n < 18446744073709551616) : n < (2 ^ ((Go.Lib.bitLen n + 1) / 2) + 1) * (2 ^ ((Go.Lib.bitLen n + 1) / 2) + 1) := by
  have h1 := lt_pow_bitLen h
  have h2 : 2 ^ Go.Lib.bitLen n ≤ 2 ^ ((Go.Lib.bitLen n + 1) / 2 + (Go.Lib.bitLen n + 1) / 2) := Nat.pow_le_pow_right (by decide) (by omega)
  rw [Nat.pow_add] at h2
  generalize 2 ^ ((Go.Lib.bitLen n + 1) / 2) = r at *
  have : (r + 1) * (r + 1) = r * r + 2 * r + 1 := by grind
  omega
theorem newton_ge {n r : Nat} (hr : 0 < r) : n < ((r + n / r) / 2 + 1) * ((r + n / r) / 2 + 1) := by
  have h1 : n < r * (n / r + 1) := Nat.lt_mul_div_succ n hr
  generalize n / r = q at *
  generalize hs : (r + q) / 2 = s at *
  have h2 : r + q + 1 ≤ 2 * (s + 1) := by omega
  have h3 : 4 * (r * (q + 1)) ≤ (r + (q + 1)) * (r + (q + 1)) := by
    rcases Nat.le_total r (q + 1) with h | h
    · obtain ⟨d, hd⟩ := Nat.exists_eq_add_of_le h
      rw [hd]
      have : (r + (r + d)) * (r + (r + d)) = 4 * (r * (r + d)) + d * d := by grind
      omega
    · obtain ⟨d, hd⟩ := Nat.exists_eq_add_of_le h
      rw [hd]
      have : (q + 1 + d + (q + 1)) * (q + 1 + d + (q + 1)) = 4 * ((q + 1 + d) * (q + 1)) + d * d := by grind
      omega
  have h4 : (r + (q + 1)) * (r + (q + 1)) ≤ (2 * (s + 1)) * (2 * (s + 1)) := Nat.mul_le_mul (by omega) (by omega)
  have h5 : (2 * (s + 1)) * (2 * (s + 1)) = 4 * ((s + 1) * (s + 1)) := by grind
  omega
theorem newton_done {n r : Nat} (hr : 0 < r) (hge : n < (r + 1) * (r + 1)) (h : r ≤ (r + n / r) / 2) : IsRoot n r := by
  refine ⟨?_, hge⟩
  have h1 : r ≤ n / r := by omega
  have := (Nat.le_div_iff_mul_le hr).1 h1
  exact this
def stripP (p : Nat) (c m : Nat) : Nat × Nat := if _h : 2 ≤ p ∧ 0 < m ∧ m % (p * p) = 0 then stripP p (c * p) (m / (p * p)) else (c, m)
termination_by m
decreasing_by
  obtain ⟨h1, h2, _⟩ := _h
  exact Nat.div_lt_self h2 (by have : 2 * 2 ≤ p * p := Nat.mul_le_mul h1 h1; omega)
theorem stripP_yes {p c m : Nat} (hp : 2 ≤ p) (hm : 0 < m) (h : m % (p * p) = 0) : stripP p c m = stripP p (c * p) (m / (p * p)) := by
  rw [stripP, dif_pos ⟨hp, hm, h⟩]
theorem stripP_no {p c m : Nat} (h : m % (p * p) ≠ 0) : stripP p c m = (c, m) := by
  rw [stripP, dif_neg (fun x => h x.2.2)]
def primesL : List Nat := [2, 3, 5, 7, 11, 13, 17, 19, 23, 29, 31, 37, 41, 43, 47, 53, 59, 61, 67, 71, 73, 79, 83, 89, 97]
def stripAll : List Nat → Nat × Nat → Nat × Nat
  | [], x => x
  | p :: r, x => stripAll r (stripP p x.1 x.2)
theorem stripAll_append (l m : List Nat) : ∀ x, stripAll (l ++ m) x = stripAll m (stripAll l x) := by
  induction l with
  | nil => intro x; rfl
  | cons p r ih => intro x; exact ih _
def normM (m : Nat) : Nat × Nat :=
  if isqrt (stripAll primesL (1, m)).2 * isqrt (stripAll primesL (1, m)).2 = (stripAll primesL (1, m)).2 then ((stripAll primesL (1, m)).1 * isqrt (stripAll primesL (1, m)).2, 1)
  else stripAll primesL (1, m)
theorem sq_of_inv {c l m : Nat} (h : c * c * l = m) (hl : 0 < l) : c * c ≤ m := by
  have : c * c * 1 ≤ c * c * l := Nat.mul_le_mul_left _ hl
  omega
structure StripInv (n c l : Nat) : Prop where
  pos : 0 < l
  cpos : 0 < c
  eq : c * c * l = n
theorem StripInv.bounds {n c l : Nat} (h : StripInv n c l) : l ≤ n ∧ c ≤ n := by
  have h1 := h.eq
  have h2 := h.pos
  have h3 := h.cpos
  have h4 : 1 * l ≤ c * c * l := Nat.mul_le_mul_right _ (Nat.mul_pos h3 h3)
  have h5 : c * 1 ≤ c * c := Nat.mul_le_mul_left _ h3
  have h6 : c * c * 1 ≤ c * c * l := Nat.mul_le_mul_left _ h2
  omega
theorem StripInv.next {n c l p : Nat} (h : StripInv n c l) (hp : 2 ≤ p) (hd : l % (p * p) = 0) : StripInv n (c * p) (l / (p * p)) := by
  have hdvd := Nat.div_mul_cancel (Nat.dvd_of_mod_eq_zero hd)
  have h2 := h.pos
  refine ⟨?_, Nat.mul_pos h.cpos (by omega), ?_⟩
  · rcases Nat.eq_zero_or_pos (l / (p * p)) with h0 | h0
    · rw [h0, Nat.zero_mul] at hdvd; omega
    · exact h0
  · rw [← h.eq]
    conv => rhs; rw [← hdvd]
    grind
theorem StripInv.small {n c l : Nat} (h : StripInv n c l) (hn : n < 100000000000000000) : c < 1000000000 := by
  have h1 := sq_of_inv h.eq h.pos
  rcases Nat.lt_or_ge c 1000000000 with a | a
  · exact a
  · have : 1000000000 * 1000000000 ≤ c * c := Nat.mul_le_mul a a
    omega
theorem stripAll_take_succ (k : Nat) (h : k < primesL.length) (x : Nat × Nat) : stripAll (primesL.take (k + 1)) x = stripP (primesL.getD k 0) (stripAll (primesL.take k) x).1 (stripAll (primesL.take k) x).2 := by
  rw [List.take_succ_eq_append_getElem h, stripAll_append, List.getD_eq_getElem?_getD, List.getElem?_eq_getElem h]; rfl
end Kp
