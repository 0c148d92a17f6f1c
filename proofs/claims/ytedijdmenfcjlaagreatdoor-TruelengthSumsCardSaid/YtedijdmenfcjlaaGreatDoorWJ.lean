/-
  Walks: rational.Check, Parts, Compare at numbers with short parts; Of at short ints.
-/
import Derived.Test.YtedijdmenfcjlaaGreatDoorWI
namespace Go.Proofs.YtedijdmenfcjlaaGreatDoor
open Go.RowKit Kp
set_option maxHeartbeats 800000 in
theorem rational_number_short (n : Int) (k : Nat) (hk : 0 < k) (hn : (Lib.itoa n).length ≤ 18) (hd : (Lib.itoa (k : Int)).length ≤ 18) (w : World) (hE : Env w) :
  Calls Tryz.prog 71 #[.string ⟨(Lib.itoa n).toArray⟩, .string ⟨(Lib.itoa (k : Int)).toArray⟩] w fun e w' => e = .returned (.tuple #[.string ⟨(rstr (Rat.divInt n k)).toArray⟩, .int .i64 0]) ∧ Q w w' := by
 have hk1 := short_abs hd
 have hg1 : 0 < Nat.gcd n.natAbs k := Nat.gcd_pos_of_pos_right _ (by omega)
 have hg2 : Nat.gcd n.natAbs k ≤ k := Nat.le_of_dvd (by omega) (Nat.gcd_dvd_right ..)
 have HR := Lib.hid (rstr_divInt_f n k hk)
 generalize rstr (Rat.divInt n k) = r at *
 have HG := Lib.hid (integer_Gcd_short n (k : Int) hn hd)
 rw [Int.natAbs_natCast] at HG
 have hmin : decide ((Lib.itoa (k : Int)).head? = some 45) = false := by
  rw [← dec_eq_itoa, decide_eq_false_iff_not]; exact decDigits_head_ne_minus k
 have lg : (Lib.itoa (Nat.gcd n.natAbs k : Int)).length ≤ 18 := itoa_len_mono (by omega) hd
 generalize hgg : Nat.gcd n.natAbs k = g at *
 clear hgg
 have lq1 := itoa_fdiv_len n g hn
 have lq2 := itoa_fdiv_len (k : Int) g hd
 have hg0 : (g : Int) ≠ 0 := by omega
 by_cases h1 : g = 1
 ·have hb : (Lib.itoa (g : Int) == [49]) = true := by rw [h1]; simp [Lib.itoa, Lib.decDigits]
  have hb' := bne_of_t hb
  have e1 : n.fdiv (g : Int) = n := by rw [h1]; simp
  have e2 : (k : Int).fdiv (g : Int) = k := by rw [h1]; simp
  rw [e1, e2] at HR
  clear e1 e2
  by_cases h2 : (k : Int) = 1
  ·have hc : (Lib.itoa (k : Int) == [49]) = true := by rw [h2]; simp [Lib.itoa, Lib.decDigits]
   have H2 := Lib.hid h2
   clear h2 h1
   go_enter Tryz.func71, Tryz.ntmps71
   go_wp2_with (first | (go_at_call 37; refine (lib_HasMinus _ _).mono ?_; rintro e w1 ⟨rfl, rfl⟩) | (go_at_call 103; refine (HG.out _ hE).mono ?_; rintro e w1 ⟨rfl, hq1⟩))
   go_ret2
   exact ⟨by rw [HR.out, if_pos H2.out]; rfl, hq1⟩
  ·have hc : (Lib.itoa (k : Int) == [49]) = false := by
    rw [beq_eq_false_iff_ne, ← itoa_one]; exact fun e => h2 (itoa_inj e)
   have H2 := Lib.hid h2
   clear h2 h1
   go_enter Tryz.func71, Tryz.ntmps71
   go_wp2_with (first | (go_at_call 37; refine (lib_HasMinus _ _).mono ?_; rintro e w1 ⟨rfl, rfl⟩) | (go_at_call 103; refine (HG.out _ hE).mono ?_; rintro e w1 ⟨rfl, hq1⟩))
   go_ret2
   exact ⟨by rw [HR.out, if_neg H2.out]; first | rfl | (simp; done), hq1⟩
 ·have hb : (Lib.itoa (g : Int) == [49]) = false := by
   rw [beq_eq_false_iff_ne, ← itoa_one]; exact fun e => h1 (by have := itoa_inj e; omega)
  have hb' := bne_of_f hb
  by_cases h2 : (k : Int).fdiv (g : Int) = 1
  ·have hc : (Lib.itoa ((k : Int).fdiv (g : Int)) == [49]) = true := by rw [h2]; simp [Lib.itoa, Lib.decDigits]
   have H2 := Lib.hid h2
   clear h2 h1
   go_enter Tryz.func71, Tryz.ntmps71
   go_wp2_with (first | (go_at_call 37; refine (lib_HasMinus _ _).mono ?_; rintro e w1 ⟨rfl, rfl⟩) | (go_at_call 103; refine (HG.out _ hE).mono ?_; rintro e w1 ⟨rfl, hq1⟩) | fail)
   refine (integer_Divide_short n g hn lg hg0 _ (hE.q hq1)).mono ?_
   rintro e w2 ⟨rfl, hq2⟩
   have hQ2 : Q w w2 := hq1.trans (hq2.mono hq1.size)
   go_wp2_with fail
   refine (integer_Divide_short (k : Int) g hd lg hg0 _ (hE.q hQ2)).mono ?_
   rintro e w3 ⟨rfl, hq3⟩
   go_wp2
   go_ret2
   exact ⟨by rw [HR.out, if_pos H2.out]; rfl, hQ2.trans (hq3.mono hQ2.size)⟩
  ·have hc : (Lib.itoa ((k : Int).fdiv (g : Int)) == [49]) = false := by
    rw [beq_eq_false_iff_ne, ← itoa_one]; exact fun e => h2 (itoa_inj e)
   have H2 := Lib.hid h2
   clear h2 h1
   go_enter Tryz.func71, Tryz.ntmps71
   go_wp2_with (first | (go_at_call 37; refine (lib_HasMinus _ _).mono ?_; rintro e w1 ⟨rfl, rfl⟩) | (go_at_call 103; refine (HG.out _ hE).mono ?_; rintro e w1 ⟨rfl, hq1⟩) | fail)
   refine (integer_Divide_short n g hn lg hg0 _ (hE.q hq1)).mono ?_
   rintro e w2 ⟨rfl, hq2⟩
   have hQ2 : Q w w2 := hq1.trans (hq2.mono hq1.size)
   go_wp2_with fail
   refine (integer_Divide_short (k : Int) g hd lg hg0 _ (hE.q hQ2)).mono ?_
   rintro e w3 ⟨rfl, hq3⟩
   go_wp2
   go_ret2
   exact ⟨by rw [HR.out, if_neg H2.out]; first | rfl | (simp; done), hQ2.trans (hq3.mono hQ2.size)⟩
end Go.Proofs.YtedijdmenfcjlaaGreatDoor
