/-
  Fractions and their numerals.
-/
import Derived.Test.YthokehkdpmbeaaaGreatDoorNatOf
namespace Kp
open Go.Lib (decDigits itoa nDigits)

theorem tdiv_bounds (n : Int) (g : Nat) {B : Int} (h : (n.natAbs : Int) ≤ B) : -B ≤ n.tdiv g ∧ n.tdiv g ≤ B := by
  have := tdiv_abs n g
  omega
theorem divInt_pos (n : Int) (k : Nat) (hk : 0 < k) : (Rat.divInt n k).num = n.tdiv (Nat.gcd n.natAbs k) ∧ ((Rat.divInt n k).den : Int) = (k : Int) / (Nat.gcd n.natAbs k : Int) := by
  have e : Rat.divInt n k = Rat.normalize n k (by omega) := by rw [Rat.normalize_eq_mkRat, Rat.divInt_ofNat]
  rw [e, Rat.normalize_eq]
  simp only
  have h1 : ((Nat.gcd n.natAbs k : Nat) : Int) ∣ n := by rw [← Int.dvd_natAbs]; exact Int.natCast_dvd_natCast.2 (Nat.gcd_dvd_left ..)
  refine ⟨?_, ?_⟩
  · rw [Int.tdiv_eq_ediv_of_dvd h1]
  · rw [Int.natCast_ediv]
/-- A fraction's numeral, as it is put together. -/
theorem rstr_divInt (n : Int) (k : Nat) (hk : 0 < k) :
    rstr (Rat.divInt n k) = if (k : Int) / (Nat.gcd n.natAbs k : Int) = 1 then itoa (n.tdiv (Nat.gcd n.natAbs k)) else itoa (n.tdiv (Nat.gcd n.natAbs k)) ++ 47 :: itoa ((k : Int) / (Nat.gcd n.natAbs k : Int)) := by
  obtain ⟨h1, h2⟩ := divInt_pos n k hk
  unfold rstr
  rw [dec_eq_itoa, h1, h2]
  by_cases h : (Rat.divInt n k).den = 1
  · rw [if_pos h, if_pos (by omega)]
  · rw [if_neg h, if_neg (by omega)]

end Kp
