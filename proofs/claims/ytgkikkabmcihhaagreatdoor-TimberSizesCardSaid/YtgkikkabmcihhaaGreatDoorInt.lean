import Derived.Test.YtgkikkabmcihhaaGreatDoorLimb
namespace Kp
open Go.Lib (decDigits itoa nDigits)

/-- The digits behind a sign. -/
def unsig (a : Str) : Str := if a.head? = some 45 then a.tail else a
/-- Why a string shows no integer: 11, no numeral; 4, too long; 0, it shows one. -/
def ichk (a : Str) : Int :=
  if unsig a = [] ∨ ((unsig a).head? = some 48 ∧ a ≠ [48]) ∨ ¬ (∀ c ∈ unsig a, isDig c = true) then 11
  else if 300 < (unsig a).length then 4 else 0
/-- The integer that a string shows. -/
def ival (a : Str) : Int := if a.head? = some 45 then -(nval a.tail : Int) else (nval a : Int)
/-- The greatest number of digits. -/
def maxD : Nat := 300
theorem maxD_eq : maxD = 300 := rfl
attribute [irreducible] maxD
/-- 10 to the 300. -/
def big : Nat := 10 ^ maxD
/-- A number with more than 300 digits. -/
def lim (z : Int) : Bool := decide (big ≤ z.natAbs)

theorem decDigits_head_ne_minus (n : Nat) : (decDigits n).head? ≠ some 45 := by
  cases h : decDigits n with
  | nil => simp
  | cons c r =>
    have := decDigits_dig n c (by rw [h]; simp)
    simp only [isDig, Bool.and_eq_true, decide_eq_true_eq] at this
    intro e
    simp only [List.head?_cons, Option.some.injEq] at e
    subst e; simp at this

theorem itoa_nonneg {z : Int} (h : 0 ≤ z) : itoa z = decDigits z.toNat := by unfold itoa; rw [if_neg (by omega)]
theorem itoa_neg {z : Int} (h : z < 0) : itoa z = 45 :: decDigits z.natAbs := by unfold itoa; rw [if_pos h]

theorem unsig_itoa (z : Int) : unsig (itoa z) = decDigits z.natAbs := by
  by_cases h : z < 0
  · rw [itoa_neg h]; simp [unsig]
  · rw [itoa_nonneg (by omega)]; unfold unsig; rw [if_neg (decDigits_head_ne_minus _)]
    congr 1; omega

theorem ival_itoa (z : Int) : ival (itoa z) = z := by
  by_cases h : z < 0
  · rw [itoa_neg h]; simp [ival, nval_decDigits]; omega
  · rw [itoa_nonneg (by omega)]; unfold ival; rw [if_neg (decDigits_head_ne_minus _), nval_decDigits]; omega

theorem ichk_itoa (z : Int) : ichk (itoa z) = if lim z then 4 else 0 := by
  have h1 : unsig (itoa z) = decDigits z.natAbs := unsig_itoa z
  unfold ichk
  have h2 := decDigits_len_le z.natAbs maxD (by rw [maxD_eq]; decide)
  rw [if_neg]
  · rw [h1, ← maxD_eq]
    unfold lim big
    by_cases h : maxD < (decDigits z.natAbs).length
    · rw [if_pos h, if_pos (by simp only [decide_eq_true_eq]; omega)]
    · rw [if_neg h, if_neg (by simp only [decide_eq_true_eq]; omega)]
  rw [h1]
  · rintro (h | ⟨h, h2⟩ | h)
    · exact decDigits_ne _ h
    · by_cases hz : 0 < z.natAbs
      · exact decDigits_head _ hz h
      · have : z = 0 := by omega
        subst this; exact h2 (by simp [itoa, decDigits])
    · exact h (decDigits_dig _)

/-- A string that shows an integer is the integer's numeral. -/
theorem itoa_ival {a : Str} (h : ichk a = 0) : itoa (ival a) = a ∧ lim (ival a) = false := by
  unfold ichk at h
  split at h
  · cases h
  · next h1 =>
    split at h
    · cases h
    · next h2 =>
      simp only [not_or, Classical.not_not, not_and] at h1
      obtain ⟨ne, hz, hd⟩ := h1
      have key : itoa (ival a) = a := by
        unfold unsig at ne hz hd
        by_cases hm : a.head? = some 45
        · rw [if_pos hm] at ne hz hd
          cases a with
          | nil => cases hm
          | cons c r =>
            simp only [List.head?_cons, Option.some.injEq] at hm
            subst hm
            simp only [List.tail_cons] at ne hz hd
            have hh : r.head? ≠ some 48 := fun e => by have := hz e; simp at this
            have hdd := decDigits_nval r ne hd (fun e => absurd e hh)
            have hpos : nval r ≠ 0 := by
              intro e
              rw [e] at hdd
              rw [← hdd] at hh
              exact hh (by simp [decDigits])
            simp only [ival, List.head?_cons, if_pos, List.tail_cons]
            rw [itoa_neg (by omega), show (-(nval r : Int)).natAbs = nval r by omega, hdd]
        · rw [if_neg hm] at ne hz hd
          unfold ival
          rw [if_neg hm, itoa_nonneg (by omega), Int.toNat_natCast]
          exact decDigits_nval a ne hd (fun e => hz e)
      refine ⟨key, ?_⟩
      have := ichk_itoa (ival a)
      rw [key] at this
      unfold ichk at this
      rw [if_neg (by simp only [not_or, Classical.not_not, not_and]; exact ⟨ne, hz, hd⟩), if_neg h2] at this
      cases hl : lim (ival a) with
      | false => rfl
      | true => rw [hl] at this; simp at this

theorem ichk_cases (a : Str) : ichk a = 0 ∨ ichk a = 4 ∨ ichk a = 11 := by
  unfold ichk; split
  · exact Or.inr (Or.inr rfl)
  · split
    · exact Or.inr (Or.inl rfl)
    · exact Or.inl rfl

theorem lim_iff (z : Int) : lim z = true ↔ big ≤ z.natAbs := by simp [lim]
theorem lim_false (z : Int) : lim z = false ↔ z.natAbs < big := by simp [lim]

theorem itoa_len (z : Int) (h : lim z = false) : (itoa z).length ≤ 301 := by
  rw [lim_false] at h
  unfold big at h
  rw [← decDigits_len_le _ maxD (by rw [maxD_eq]; decide), maxD_eq] at h
  by_cases hz : z < 0
  · rw [itoa_neg hz]; simp only [List.length_cons]; omega
  · rw [itoa_nonneg (by omega), show z.toNat = z.natAbs by omega]; omega

theorem itoa_inj {x y : Int} (h : itoa x = itoa y) : x = y := by rw [← ival_itoa x, h, ival_itoa]

end Kp
