import Derived.Test.YtgkikkabmcihhaaGreatDoorInt
namespace Kp
open Go.Lib (decDigits itoa nDigits)

/-- What stands ahead of the first slash; and what stands behind it, if there is one. -/
def numPart (a : Str) : Str := a.takeWhile (· ≠ 47)
def hasSlash (a : Str) : Bool := decide (47 ∈ a)
def denPart (a : Str) : Str := (a.dropWhile (· ≠ 47)).tail
/-- The numeral of a rational number. -/
def rstr (q : Rat) : Str := if q.den = 1 then itoa q.num else itoa q.num ++ 47 :: decDigits q.den
/-- The form of a number's string is wrong. -/
def rbad (a : Str) : Prop :=
  ichk (numPart a) = 11 ∨ (hasSlash a = true ∧ (ichk (denPart a) = 11 ∨ (denPart a).head? = some 45 ∨ denPart a = [48] ∨ denPart a = [49]))
instance (a : Str) : Decidable (rbad a) := by unfold rbad; infer_instance
/-- The denominator's string. -/
def denStr (a : Str) : Str := if hasSlash a then denPart a else [49]
/-- Why a string shows no rational number in lowest terms. -/
def rchk (a : Str) : Int :=
  if rbad a then 11
  else if ichk (numPart a) = 4 ∨ ichk (denStr a) = 4 then 4
  else if Nat.gcd (ival (numPart a)).natAbs (ival (denStr a)).natAbs ≠ 1 then 11 else 0
/-- The number that a string shows. -/
def rval (a : Str) : Rat := mkRat (ival (numPart a)) (ival (denStr a)).natAbs
/-- A number with a part of more than 300 digits. -/
def rlim (q : Rat) : Bool := lim q.num || lim q.den

theorem itoa_noslash (z : Int) : ∀ c ∈ itoa z, c ≠ 47 := by
  intro c hc e
  subst e
  by_cases h : z < 0
  · rw [itoa_neg h] at hc
    rcases List.mem_cons.1 hc with hc | hc
    · cases hc
    · have := decDigits_dig _ _ hc; simp [isDig] at this
  · rw [itoa_nonneg (by omega)] at hc
    have := decDigits_dig _ _ hc; simp [isDig] at this

theorem dec_eq_itoa (n : Nat) : decDigits n = itoa (n : Int) := by rw [itoa_nonneg (by omega), Int.toNat_natCast]

theorem takeWhile_all {α : Type} (p : α → Bool) : ∀ (l : List α), (∀ x ∈ l, p x = true) → l.takeWhile p = l
  | [], _ => rfl
  | x :: r, h => by
    rw [List.takeWhile_cons, if_pos (h x (by simp)), takeWhile_all p r (fun y hy => h y (by simp [hy]))]
theorem takeWhile_stop {α : Type} (p : α → Bool) (x : α) (m : List α) (hx : p x = false) : ∀ (l : List α), (∀ y ∈ l, p y = true) → (l ++ x :: m).takeWhile p = l
  | [], _ => by simp [hx]
  | y :: r, h => by
    rw [List.cons_append, List.takeWhile_cons, if_pos (h y (by simp)), takeWhile_stop p x m hx r (fun z hz => h z (by simp [hz]))]
theorem dropWhile_stop {α : Type} (p : α → Bool) (x : α) (m : List α) (hx : p x = false) : ∀ (l : List α), (∀ y ∈ l, p y = true) → (l ++ x :: m).dropWhile p = x :: m
  | [], _ => by simp [hx]
  | y :: r, h => by
    rw [List.cons_append, List.dropWhile_cons, if_pos (h y (by simp)), dropWhile_stop p x m hx r (fun z hz => h z (by simp [hz]))]

theorem noslash_pred {z : Int} : ∀ c ∈ itoa z, decide (c ≠ 47) = true := fun c hc => by simpa using itoa_noslash z c hc

theorem numPart_whole (z : Int) : numPart (itoa z) = itoa z := takeWhile_all _ _ noslash_pred
theorem hasSlash_whole (z : Int) : hasSlash (itoa z) = false := by
  simp only [hasSlash, decide_eq_false_iff_not]
  intro h; exact itoa_noslash z _ h rfl
theorem numPart_frac (z : Int) (d : Str) : numPart (itoa z ++ 47 :: d) = itoa z := takeWhile_stop _ _ _ (by simp) _ noslash_pred
theorem denPart_frac (z : Int) (d : Str) : denPart (itoa z ++ 47 :: d) = d := by
  unfold denPart; rw [dropWhile_stop _ _ _ (by simp) _ noslash_pred]; rfl
theorem hasSlash_frac (n d : Str) : hasSlash (n ++ 47 :: d) = true := by simp [hasSlash]

theorem itoa_one : itoa 1 = [49] := by simp [itoa, decDigits]
theorem itoa_zero : itoa 0 = [48] := by simp [itoa, decDigits]

theorem lim_one : lim 1 = false := by
  rw [lim_false]; unfold big
  have : 10 ^ 1 ≤ 10 ^ maxD := Nat.pow_le_pow_right (by decide) (by rw [maxD_eq]; decide)
  simp at *; omega

theorem ichk_four_itoa (z : Int) : ichk (itoa z) = 4 ↔ lim z = true := by
  rw [ichk_itoa]; cases lim z <;> simp
theorem ichk_ne_eleven (z : Int) : ichk (itoa z) ≠ 11 := by
  rw [ichk_itoa]; cases lim z <;> simp

theorem numPart_rstr (q : Rat) : numPart (rstr q) = itoa q.num := by
  unfold rstr; split
  · exact numPart_whole _
  · exact numPart_frac _ _
theorem denStr_rstr (q : Rat) : denStr (rstr q) = itoa q.den := by
  unfold rstr denStr; split
  · next h => rw [hasSlash_whole, h]; simp [itoa_one]
  · rw [hasSlash_frac, denPart_frac, dec_eq_itoa]; simp

theorem rbad_rstr (q : Rat) : ¬ rbad (rstr q) := by
  unfold rbad
  rw [numPart_rstr]
  rintro (h | ⟨h, h2⟩)
  · exact ichk_ne_eleven _ h
  · unfold rstr at h h2
    split at h
    · rw [hasSlash_whole] at h; cases h
    · next hd =>
      rw [if_neg hd, denPart_frac, dec_eq_itoa] at h2
      rcases h2 with h2 | h2 | h2 | h2
      · exact ichk_ne_eleven _ h2
      · rw [← dec_eq_itoa] at h2; exact decDigits_head_ne_minus _ h2
      · rw [← itoa_zero] at h2; have := itoa_inj h2; have := q.den_nz; omega
      · rw [← itoa_one] at h2; have := itoa_inj h2; omega

theorem rchk_rstr (q : Rat) : rchk (rstr q) = if rlim q then 4 else 0 := by
  unfold rchk
  rw [if_neg (rbad_rstr q), numPart_rstr, denStr_rstr]
  simp only [ichk_four_itoa]
  unfold rlim
  by_cases h : lim q.num = true ∨ lim q.den = true
  · rw [if_pos h, if_pos (by simpa using h)]
  · rw [if_neg h, ival_itoa, ival_itoa, if_neg (by have := q.reduced; simp only [Int.natAbs_natCast, ne_eq, Classical.not_not]; exact this)]
    rw [if_neg (by simpa using h)]

theorem rval_rstr (q : Rat) : rval (rstr q) = q := by
  unfold rval
  rw [numPart_rstr, denStr_rstr, ival_itoa, ival_itoa, Int.natAbs_natCast]
  exact Rat.mkRat_self q

theorem rstr_inj {p q : Rat} (h : rstr p = rstr q) : p = q := by rw [← rval_rstr p, h, rval_rstr]

theorem take_drop_slash (a : Str) (h : 47 ∈ a) : a = numPart a ++ 47 :: denPart a := by
  unfold numPart denPart
  have h1 := List.takeWhile_append_dropWhile (p := fun c : UInt8 => decide (c ≠ 47)) (l := a)
  cases hd : a.dropWhile (fun c : UInt8 => decide (c ≠ 47)) with
  | nil =>
    rw [hd, List.append_nil] at h1
    rw [← h1] at h
    have := List.all_takeWhile (p := fun c : UInt8 => decide (c ≠ 47)) (l := a)
    rw [List.all_eq_true] at this
    have := this _ h
    simp at this
  | cons c r =>
    have h2 := List.head?_dropWhile_not (fun c : UInt8 => decide (c ≠ 47)) a
    rw [hd] at h2
    simp at h2
    subst h2
    rw [hd] at h1
    simpa using h1.symm

theorem ichk_zero_of {a : Str} (h1 : ichk a ≠ 11) (h2 : ichk a ≠ 4) : ichk a = 0 := by
  rcases ichk_cases a with h | h | h
  · exact h
  · exact absurd h h2
  · exact absurd h h1

/-- A string that shows a number in lowest terms is the number's own. -/
theorem rstr_rval {a : Str} (h : rchk a = 0) : rstr (rval a) = a ∧ rlim (rval a) = false := by
  unfold rchk at h
  split at h
  · cases h
  · next hb =>
    split at h
    · cases h
    · next h4 =>
      split at h
      · cases h
      · next hg =>
        simp only [ne_eq, Classical.not_not] at hg
        simp only [not_or] at h4
        unfold rbad at hb
        simp only [not_or, not_and] at hb
        have hn := itoa_ival (ichk_zero_of hb.1 h4.1)
        by_cases hs : 47 ∈ a
        · have hs' : hasSlash a = true := by simpa [hasSlash] using hs
          obtain ⟨b1, b2, b3, b4⟩ := hb.2 hs'
          have ed : denStr a = denPart a := by unfold denStr; rw [if_pos hs']
          rw [ed] at h4 hg
          have hd := itoa_ival (ichk_zero_of b1 h4.2)
          have hd0 : 0 ≤ ival (denPart a) := by unfold ival; rw [if_neg b2]; omega
          have hd1 : ival (denPart a) ≠ 0 := by intro e; rw [e, itoa_zero] at hd; exact b3 hd.1.symm
          have hd2 : ival (denPart a) ≠ 1 := by intro e; rw [e, itoa_one] at hd; exact b4 hd.1.symm
          have key : rval a = ⟨ival (numPart a), (ival (denPart a)).natAbs, by omega, hg⟩ := by
            unfold rval; rw [ed, Rat.mk_eq_mkRat]
          have ec : ((ival (denPart a)).natAbs : Int) = ival (denPart a) := by omega
          rw [key]
          refine ⟨?_, ?_⟩
          · unfold rstr
            simp only
            rw [if_neg (by omega), dec_eq_itoa, ec, hn.1, hd.1]
            exact (take_drop_slash a hs).symm
          · unfold rlim; simp only; rw [hn.2, ec, hd.2]; rfl
        · have hs' : hasSlash a = false := by simpa [hasSlash] using hs
          have ed : denStr a = [49] := by unfold denStr; rw [hs']; rfl
          have en : numPart a = a := takeWhile_all _ _ (fun c hc => by
            simp only [ne_eq, decide_eq_true_eq]; intro e; subst e; exact hs hc)
          have ei : ival [49] = 1 := by rw [← itoa_one, ival_itoa]
          have key : rval a = ⟨ival a, 1, by decide, by simp⟩ := by
            unfold rval; rw [ed, en, ei, Rat.mk_eq_mkRat]; rfl
          rw [key]
          rw [en] at hn
          refine ⟨?_, ?_⟩
          · unfold rstr; simp only; rw [if_pos trivial, hn.1]
          · unfold rlim; simp only; rw [hn.2]; exact lim_one

theorem rchk_cases (a : Str) : rchk a = 0 ∨ rchk a = 4 ∨ rchk a = 11 := by
  unfold rchk; repeat' split
  all_goals simp

end Kp
