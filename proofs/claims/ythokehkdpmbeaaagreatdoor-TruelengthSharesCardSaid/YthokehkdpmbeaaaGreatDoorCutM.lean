/-
  The form of a number's string, as rational.cut asks it.
-/
import Derived.Test.YthokehkdpmbeaaaGreatDoorRatM
namespace Kp
open Go.Lib (decDigits itoa nDigits)

/-- Digits ahead, 0 if there is a zero too many. -/
def digN (s : Str) : Nat := if 1 < (s.takeWhile isDig).length ∧ at0 s 0 = 48 then 0 else (s.takeWhile isDig).length

theorem takeWhile_len_of {s : Str} {k : Nat} (h : AllDig (s.take k)) (hk : k ≤ s.length) (stop : k = s.length ∨ isDig (at0 s k) = false) : (s.takeWhile isDig).length = k := by
  by_cases hl : k = s.length
  · rw [hl, List.take_length] at h
    rw [takeWhile_all _ _ h, hl]
  · have hd := stop.resolve_left hl
    have hlt : k < s.length := by omega
    have e : s = s.take k ++ at0 s k :: s.drop (k + 1) := by
      rw [at0_get s k hlt, ← List.drop_eq_getElem_cons, List.take_append_drop]
    have := takeWhile_stop isDig (at0 s k) (s.drop (k + 1)) hd (s.take k) h
    rw [← e] at this
    rw [this, List.length_take]; omega

theorem takeWhile_len_le (s : Str) : (s.takeWhile isDig).length ≤ s.length := (List.takeWhile_sublist _).length_le
theorem takeWhile_full {s : Str} (h : (s.takeWhile isDig).length = s.length) : AllDig s := by
  have e : s.takeWhile isDig = s := (List.takeWhile_prefix _).eq_of_length h
  intro c hc
  have := List.all_takeWhile (p := isDig) (l := s)
  rw [List.all_eq_true, e] at this
  exact this c hc
/-- All of it a numeral without a sign. -/
theorem digN_good {s : Str} : (digN s ≠ 0 ∧ ¬ digN s < s.length) ↔ (s ≠ [] ∧ AllDig s ∧ (s.head? = some 48 → s = [48])) := by
  have hle := takeWhile_len_le s
  constructor
  · rintro ⟨h0, h1⟩
    unfold digN at h0 h1
    split at h0
    · exact absurd rfl h0
    · next hz =>
      rw [if_neg hz] at h1
      have hfull : (s.takeWhile isDig).length = s.length := by omega
      have hne : s ≠ [] := by intro e; subst e; simp at h0
      refine ⟨hne, takeWhile_full hfull, fun e => ?_⟩
      rw [head_at0 hne] at e
      have e48 := Option.some.inj e
      have h1' : s.length = 1 := by
        by_cases hc : 1 < s.length
        · exact absurd ⟨by omega, e48⟩ hz
        · have := List.length_pos_iff.2 hne; omega
      obtain ⟨c, rfl⟩ := List.length_eq_one_iff.1 h1'
      simp only [at0, List.getD_cons_zero] at e48; rw [e48]
  · rintro ⟨hne, hd, hz⟩
    have hl : (s.takeWhile isDig).length = s.length := by rw [takeWhile_all _ _ hd]
    have hpos := List.length_pos_iff.2 hne
    have e : digN s = s.length := by
      unfold digN
      rw [if_neg, hl]
      rintro ⟨a, b⟩
      rw [hl] at a
      have := hz (by rw [head_at0 hne, b])
      rw [this] at a; simp at a
    omega

theorem ichk_eleven (n : Str) : ichk n = 11 ↔ (digN (unsig n) = 0 ∨ digN (unsig n) < (unsig n).length ∨ (n.head? = some 45 ∧ unsig n = [48])) := by
  have hg := digN_good (s := unsig n)
  constructor
  · intro h
    by_cases h0 : digN (unsig n) = 0
    · exact .inl h0
    · by_cases h1 : digN (unsig n) < (unsig n).length
      · exact .inr (.inl h1)
      · obtain ⟨a, b, c⟩ := hg.1 ⟨h0, h1⟩
        right; right
        by_cases h48 : (unsig n).head? = some 48
        · have e := c h48
          refine ⟨?_, e⟩
          by_cases hm : n.head? = some 45
          · exact hm
          · rw [unsig_same hm] at e
            rw [e, ichk_48] at h; cases h
        · rw [head_at0 a] at h48
          rw [ichk_rest a (fun x => h48 (by rw [x])) b] at h
          split at h <;> cases h
  · intro h
    by_cases hA : unsig n = []
    · exact ichk_empty hA
    · by_cases hD : AllDig (unsig n)
      · by_cases hz : at0 (unsig n) 0 = 48 ∧ n ≠ [48]
        · exact ichk_zero hA hz.1 hz.2
        · exfalso
          have hgood : unsig n ≠ [] ∧ AllDig (unsig n) ∧ ((unsig n).head? = some 48 → unsig n = [48]) := by
            refine ⟨hA, hD, fun e => ?_⟩
            rw [head_at0 hA] at e
            have : n = [48] := Classical.byContradiction fun x => hz ⟨Option.some.inj e, x⟩
            rw [this]; rfl
          obtain ⟨a, b⟩ := hg.2 hgood
          rcases h with h | h | ⟨h, h2⟩
          · exact a h
          · exact b h
          · have : n = [48] := Classical.byContradiction fun x => hz ⟨by rw [h2]; rfl, x⟩
            rw [this] at h; simp at h
      · exact ichk_digits hD

/-- .. and of a denominator. -/
theorem den_bad (d : Str) : (ichk d = 11 ∨ d.head? = some 45 ∨ d = [48] ∨ d = [49]) ↔ (digN d = 0 ∨ digN d < d.length ∨ d = [48] ∨ d = [49]) := by
  by_cases hm : d.head? = some 45
  · have hdig : digN d = 0 := by
      cases d with
      | nil => cases hm
      | cons c r =>
        simp only [List.head?_cons, Option.some.injEq] at hm
        subst hm
        have h45 : isDig 45 = false := by decide
        unfold digN
        rw [List.takeWhile_cons, h45]; simp
    simp [hm, hdig]
  · have := ichk_eleven d
    rw [unsig_same hm] at this
    rw [this]
    simp only [hm, false_and, or_false, false_or]
    constructor
    · rintro ((a | a) | a | a)
      · exact .inl a
      · exact .inr (.inl a)
      · exact .inr (.inr (.inl a))
      · exact .inr (.inr (.inr a))
    · rintro (a | a | a | a)
      · exact .inl (.inl a)
      · exact .inl (.inr a)
      · exact .inr (.inl a)
      · exact .inr (.inr a)

theorem rbad_iff (a : Str) : rbad a ↔ ((digN (unsig (numPart a)) = 0 ∨ digN (unsig (numPart a)) < (unsig (numPart a)).length ∨ ((numPart a).head? = some 45 ∧ unsig (numPart a) = [48])) ∨
    (hasSlash a = true ∧ (digN (denPart a) = 0 ∨ digN (denPart a) < (denPart a).length ∨ denPart a = [48] ∨ denPart a = [49]))) := by
  unfold rbad
  rw [ichk_eleven, den_bad]

theorem numPart_len (a : Str) : (numPart a).length ≤ a.length := (List.takeWhile_sublist _).length_le
theorem denPart_len (a : Str) : (denPart a).length ≤ a.length := by
  unfold denPart
  have h1 : (a.dropWhile (· ≠ 47)).length ≤ a.length := (List.dropWhile_sublist _).length_le
  rw [List.length_tail]
  have h2 : (a.dropWhile (fun x => decide (x ≠ 47))).length ≤ a.length := h1
  omega

theorem rstr_divInt_f (n : Int) (k : Nat) (hk : 0 < k) :
    rstr (Rat.divInt n k) = if (k : Int).fdiv (Nat.gcd n.natAbs k : Int) = 1 then itoa (n.fdiv (Nat.gcd n.natAbs k : Int)) else itoa (n.fdiv (Nat.gcd n.natAbs k : Int)) ++ 47 :: itoa ((k : Int).fdiv (Nat.gcd n.natAbs k : Int)) := by
  rw [rstr_divInt n k hk, Int.fdiv_eq_ediv_of_nonneg _ (by omega), Int.fdiv_eq_ediv_of_nonneg _ (by omega)]
  have h1 : ((Nat.gcd n.natAbs k : Nat) : Int) ∣ n := by rw [← Int.dvd_natAbs]; exact Int.natCast_dvd_natCast.2 (Nat.gcd_dvd_left ..)
  rw [Int.tdiv_eq_ediv_of_dvd h1]

theorem dec_len_mono {a b : Nat} (h : a ≤ b) : (decDigits a).length ≤ (decDigits b).length := by
  have p := List.length_pos_iff.2 (decDigits_ne b)
  have := (decDigits_len_le b _ p).1 (Nat.le_refl _)
  exact (decDigits_len_le a _ p).2 (by omega)
theorem itoa_len_mono {a b : Nat} {m : Nat} (h : a ≤ b) (hb : (itoa (b : Int)).length ≤ m) : (itoa (a : Int)).length ≤ m := by
  rw [← dec_eq_itoa] at *; exact Nat.le_trans (dec_len_mono h) hb
theorem itoa_len_eq (z : Int) : (itoa z).length = (decDigits z.natAbs).length + (if z < 0 then 1 else 0) := by
  by_cases h : z < 0
  · rw [itoa_neg h, if_pos h, List.length_cons]
  · rw [itoa_nonneg (by omega), if_neg h, show z.toNat = z.natAbs by omega]; rfl
theorem itoa_fdiv_len (n : Int) (g : Nat) (hn : (itoa n).length ≤ 18) : (itoa (n.fdiv g)).length ≤ 1000 := by
  have h := short_abs hn
  have hb : (n.fdiv g).natAbs ≤ 1000000000000000000 := by
    rw [Int.fdiv_eq_ediv_of_nonneg _ (by omega)]
    by_cases hg : g = 0
    · subst hg; simp
    · have h1 : n / (g : Int) ≤ n.natAbs := Int.le_trans (Int.ediv_le_ediv (by omega) (show n ≤ (n.natAbs : Int) by omega)) (Int.ediv_le_self _ (by omega))
      have h2 : -(n.natAbs : Int) ≤ n / (g : Int) := by
        rw [Int.le_ediv_iff_mul_le (by omega)]
        have : (n.natAbs : Int) * 1 ≤ n.natAbs * g := Int.mul_le_mul_of_nonneg_left (by omega) (by omega)
        rw [Int.neg_mul]; omega
      omega
  have h19 : (decDigits (n.fdiv g).natAbs).length ≤ 19 := (decDigits_len_le _ 19 (by decide)).2 (by
    have : (10 : Nat) ^ 19 = 10000000000000000000 := by decide
    omega)
  rw [itoa_len_eq]; split <;> omega

end Kp
