/-
  Square roots of integers, and the normal form of the root of an integer: plain mathematics.
-/
import Derived.Test.YthokehkdpmbeaaaGreatDoorCutM
import Derived.Lib.BitFns
namespace Kp
open Go.Lib (decDigits itoa nDigits)

/-- r is the greatest number whose square is at most n. -/
def IsRoot (n r : Nat) : Prop := r * r ≤ n ∧ n < (r + 1) * (r + 1)
theorem IsRoot.unique {n r s : Nat} (h : IsRoot n r) (k : IsRoot n s) : r = s := by
  obtain ⟨h1, h2⟩ := h
  obtain ⟨k1, k2⟩ := k
  by_cases a : r < s
  · have : (r + 1) * (r + 1) ≤ s * s := Nat.mul_le_mul a a
    omega
  · by_cases b : s < r
    · have : (s + 1) * (s + 1) ≤ r * r := Nat.mul_le_mul b b
      omega
    · omega
def isqrt (n : Nat) : Nat := if h : n = 0 then 0 else if (2 * isqrt (n / 4) + 1) * (2 * isqrt (n / 4) + 1) ≤ n then 2 * isqrt (n / 4) + 1 else 2 * isqrt (n / 4)
termination_by n
decreasing_by all_goals omega
theorem isqrt_spec (n : Nat) : IsRoot n (isqrt n) := by
  induction n using Nat.strongRecOn with
  | _ n ih =>
    rw [isqrt]
    split
    · next h => subst h; exact ⟨Nat.le_refl _, by decide⟩
    · next h =>
      obtain ⟨h1, h2⟩ := ih (n / 4) (by omega)
      generalize isqrt (n / 4) = s at *
      have e1 : 2 * s * (2 * s) = 4 * (s * s) := by grind
      have e2 : (2 * s + 1 + 1) * (2 * s + 1 + 1) = 4 * ((s + 1) * (s + 1)) := by grind
      split
      · next hc => exact ⟨hc, by omega⟩
      · next hc => exact ⟨by omega, by omega⟩
theorem isqrt_of {n r : Nat} (h : IsRoot n r) : isqrt n = r := (isqrt_spec n).unique h
theorem isqrt_le (n : Nat) : isqrt n ≤ n := by
  have h := (isqrt_spec n).1
  by_cases h0 : isqrt n = 0
  · omega
  · have : isqrt n * 1 ≤ isqrt n * isqrt n := Nat.mul_le_mul_left _ (by omega)
    omega

theorem isqrt_small {n : Nat} (h : n < 2) : isqrt n = n := by
  have : n = 0 ∨ n = 1 := by omega
  rcases this with rfl | rfl
  · exact isqrt_of ⟨by decide, by decide⟩
  · exact isqrt_of ⟨by decide, by decide⟩
theorem lt_pow_bitLenAux : ∀ (f x : Nat), x < 2 ^ f → x < 2 ^ Go.Lib.bitLenAux f x
  | 0, x, h => h
  | f + 1, x, h => by
    simp only [Go.Lib.bitLenAux]
    split
    · next h0 => subst h0; decide
    · have := lt_pow_bitLenAux f (x / 2) (by rw [Nat.pow_succ] at h; omega)
      rw [Nat.add_comm, Nat.pow_succ]; omega
theorem bitLenAux_le : ∀ (f k x : Nat), x < 2 ^ k → Go.Lib.bitLenAux f x ≤ k
  | 0, _, _, _ => Nat.zero_le _
  | f + 1, k, x, h => by
    simp only [Go.Lib.bitLenAux]
    split
    · omega
    · cases k with
      | zero => simp at h; omega
      | succ k =>
        have := bitLenAux_le f k (x / 2) (by rw [Nat.pow_succ] at h; omega)
        omega
theorem lt_pow_bitLen {x : Nat} (h : x < 18446744073709551616) : x < 2 ^ Go.Lib.bitLen x := lt_pow_bitLenAux 64 x h
theorem bitLen_le {x k : Nat} (h : x < 2 ^ k) : Go.Lib.bitLen x ≤ k := bitLenAux_le 64 k x h
/-- From a power of two that is not less than the root. -/
theorem start_ge {n : Nat} (h : n < 18446744073709551616) : n < (2 ^ ((Go.Lib.bitLen n + 1) / 2) + 1) * (2 ^ ((Go.Lib.bitLen n + 1) / 2) + 1) := by
  have h1 := lt_pow_bitLen h
  have h2 : 2 ^ Go.Lib.bitLen n ≤ 2 ^ ((Go.Lib.bitLen n + 1) / 2 + (Go.Lib.bitLen n + 1) / 2) := Nat.pow_le_pow_right (by decide) (by omega)
  rw [Nat.pow_add] at h2
  generalize 2 ^ ((Go.Lib.bitLen n + 1) / 2) = r at *
  have : (r + 1) * (r + 1) = r * r + 2 * r + 1 := by grind
  omega

/-- Newton's step is not below the root. -/
theorem newton_ge {n r : Nat} (hr : 0 < r) : n < ((r + n / r) / 2 + 1) * ((r + n / r) / 2 + 1) := by
  have h1 : n < r * (n / r + 1) := Nat.lt_mul_div_succ n hr
  generalize n / r = q at *
  generalize hs : (r + q) / 2 = s at *
  have h2 : r + q + 1 ≤ 2 * (s + 1) := by omega
  -- 4 r (q + 1) ≤ (r + q + 1)^2
  have h3 : 4 * (r * (q + 1)) ≤ (r + (q + 1)) * (r + (q + 1)) := by
    rcases Nat.le_total r (q + 1) with h | h
    · obtain ⟨d, hd⟩ := Nat.exists_eq_add_of_le h
      rw [hd]
      have : (r + (r + d)) * (r + (r + d)) = 4 * (r * (r + d)) + d * d := by grind
      omega
    · obtain ⟨d, hd⟩ := Nat.exists_eq_add_of_le h
      rw [hd]
      have : (q + 1 + d + (q + 1)) * (q + 1 + d + (q + 1)) = 4 * ((q + 1 + d) * (q + 1)) + d * d := by grind
      omega
  have h4 : (r + (q + 1)) * (r + (q + 1)) ≤ (2 * (s + 1)) * (2 * (s + 1)) := Nat.mul_le_mul (by omega) (by omega)
  have h5 : (2 * (s + 1)) * (2 * (s + 1)) = 4 * ((s + 1) * (s + 1)) := by grind
  omega
/-- Where it goes no further down, the root is reached. -/
theorem newton_done {n r : Nat} (hr : 0 < r) (hge : n < (r + 1) * (r + 1)) (h : r ≤ (r + n / r) / 2) : IsRoot n r := by
  refine ⟨?_, hge⟩
  have h1 : r ≤ n / r := by omega
  have := (Nat.le_div_iff_mul_le hr).1 h1
  exact this

/-- The square of a prime taken out, as often as it divides. -/
def stripP (p : Nat) (c m : Nat) : Nat × Nat := if _h : 2 ≤ p ∧ 0 < m ∧ m % (p * p) = 0 then stripP p (c * p) (m / (p * p)) else (c, m)
termination_by m
decreasing_by
  obtain ⟨h1, h2, _⟩ := _h
  exact Nat.div_lt_self h2 (by have : 2 * 2 ≤ p * p := Nat.mul_le_mul h1 h1; omega)
theorem stripP_yes {p c m : Nat} (hp : 2 ≤ p) (hm : 0 < m) (h : m % (p * p) = 0) : stripP p c m = stripP p (c * p) (m / (p * p)) := by
  rw [stripP, dif_pos ⟨hp, hm, h⟩]
theorem stripP_no {p c m : Nat} (h : m % (p * p) ≠ 0) : stripP p c m = (c, m) := by
  rw [stripP, dif_neg (fun x => h x.2.2)]

/-- What taking out squares keeps. -/
theorem stripP_spec (p : Nat) (hp : 2 ≤ p) : ∀ (m c : Nat), 0 < m → 0 < c →
    0 < (stripP p c m).2 ∧ 0 < (stripP p c m).1 ∧ (stripP p c m).1 * (stripP p c m).1 * (stripP p c m).2 = c * c * m ∧ (stripP p c m).2 % (p * p) ≠ 0 ∧ (stripP p c m).2 ≤ m := by
  intro m
  induction m using Nat.strongRecOn with
  | _ m ih =>
    intro c hm hc
    by_cases h : m % (p * p) = 0
    · rw [stripP_yes hp hm h]
      have hpp : 4 ≤ p * p := Nat.mul_le_mul hp hp
      have hdvd := Nat.div_mul_cancel (Nat.dvd_of_mod_eq_zero h)
      have hlt : m / (p * p) < m := Nat.div_lt_self hm (by omega)
      have hpos : 0 < m / (p * p) := by
        rcases Nat.eq_zero_or_pos (m / (p * p)) with h0 | h0
        · rw [h0, Nat.zero_mul] at hdvd; omega
        · exact h0
      obtain ⟨a, b, d, e, f⟩ := ih (m / (p * p)) hlt (c * p) hpos (Nat.mul_pos hc (by omega))
      refine ⟨a, b, ?_, e, by omega⟩
      rw [d]
      conv => rhs; rw [← hdvd]
      grind
    · rw [stripP_no h]; exact ⟨hm, hc, rfl, h, Nat.le_refl _⟩

def primesL : List Nat := [2, 3, 5, 7, 11, 13, 17, 19, 23, 29, 31, 37, 41, 43, 47, 53, 59, 61, 67, 71, 73, 79, 83, 89, 97]
def stripAll : List Nat → Nat × Nat → Nat × Nat
  | [], x => x
  | p :: r, x => stripAll r (stripP p x.1 x.2)
theorem stripAll_append (l m : List Nat) : ∀ x, stripAll (l ++ m) x = stripAll m (stripAll l x) := by
  induction l with
  | nil => intro x; rfl
  | cons p r ih => intro x; exact ih _
theorem stripAll_spec : ∀ (l : List Nat), (∀ p ∈ l, 2 ≤ p) → ∀ (c m : Nat), 0 < m → 0 < c →
    0 < (stripAll l (c, m)).2 ∧ 0 < (stripAll l (c, m)).1 ∧ (stripAll l (c, m)).1 * (stripAll l (c, m)).1 * (stripAll l (c, m)).2 = c * c * m ∧ (stripAll l (c, m)).2 ≤ m
  | [], _, c, m, hm, hc => ⟨hm, hc, rfl, Nat.le_refl _⟩
  | p :: r, h, c, m, hm, hc => by
    obtain ⟨a, b, d, _, f⟩ := stripP_spec p (h p (by simp)) m c hm hc
    obtain ⟨a2, b2, d2, f2⟩ := stripAll_spec r (fun q hq => h q (by simp [hq])) (stripP p c m).1 (stripP p c m).2 a b
    exact ⟨a2, b2, by rw [← d]; exact d2, Nat.le_trans f2 f⟩
theorem primesL_ge : ∀ p ∈ primesL, 2 ≤ p := by decide

/-- The normal form of the root of m: c times the root of what is left. -/
def normM (m : Nat) : Nat × Nat :=
  if isqrt (stripAll primesL (1, m)).2 * isqrt (stripAll primesL (1, m)).2 = (stripAll primesL (1, m)).2 then ((stripAll primesL (1, m)).1 * isqrt (stripAll primesL (1, m)).2, 1)
  else stripAll primesL (1, m)

theorem normM_spec {m : Nat} (hm : 0 < m) : 0 < (normM m).2 ∧ 0 < (normM m).1 ∧ (normM m).1 * (normM m).1 * (normM m).2 = m ∧ (normM m).2 ≤ m := by
  obtain ⟨a, b, d, f⟩ := stripAll_spec primesL primesL_ge 1 m hm (by decide)
  unfold normM
  generalize (stripAll primesL (1, m)).1 = c at *
  generalize hl : (stripAll primesL (1, m)).2 = l at *
  split
  · next h =>
    refine ⟨Nat.one_pos, Nat.mul_pos b ?_, ?_, by omega⟩
    · by_cases h0 : isqrt l = 0
      · rw [h0] at h; omega
      · omega
    · simp only
      generalize isqrt l = r at *
      subst h
      grind
  · refine ⟨by rw [hl]; exact a, ?_, ?_, by rw [hl]; exact f⟩
    · have := stripAll_spec primesL primesL_ge 1 m hm (by decide); exact this.2.1
    · have := stripAll_spec primesL primesL_ge 1 m hm (by decide)
      rw [this.2.2.1]; simp

theorem sq_of_inv {c l m : Nat} (h : c * c * l = m) (hl : 0 < l) : c * c ≤ m := by
  have : c * c * 1 ≤ c * c * l := Nat.mul_le_mul_left _ hl
  omega
/-- What the loops keep: squares of primes have been taken out of n. -/
structure StripInv (n c l : Nat) : Prop where
  pos : 0 < l
  cpos : 0 < c
  eq : c * c * l = n
theorem StripInv.bounds {n c l : Nat} (h : StripInv n c l) : l ≤ n ∧ c ≤ n := by
  have h1 := h.eq
  have h2 := h.pos
  have h3 := h.cpos
  have h4 : 1 * l ≤ c * c * l := Nat.mul_le_mul_right _ (Nat.mul_pos h3 h3)
  have h5 : c * 1 ≤ c * c := Nat.mul_le_mul_left _ h3
  have h6 : c * c * 1 ≤ c * c * l := Nat.mul_le_mul_left _ h2
  omega
theorem StripInv.next {n c l p : Nat} (h : StripInv n c l) (hp : 2 ≤ p) (hd : l % (p * p) = 0) : StripInv n (c * p) (l / (p * p)) := by
  have hdvd := Nat.div_mul_cancel (Nat.dvd_of_mod_eq_zero hd)
  have h2 := h.pos
  refine ⟨?_, Nat.mul_pos h.cpos (by omega), ?_⟩
  · rcases Nat.eq_zero_or_pos (l / (p * p)) with h0 | h0
    · rw [h0, Nat.zero_mul] at hdvd; omega
    · exact h0
  · rw [← h.eq]
    conv => rhs; rw [← hdvd]
    grind
theorem StripInv.small {n c l : Nat} (h : StripInv n c l) (hn : n < 100000000000000000) : c < 1000000000 := by
  have h1 := sq_of_inv h.eq h.pos
  rcases Nat.lt_or_ge c 1000000000 with a | a
  · exact a
  · have : 1000000000 * 1000000000 ≤ c * c := Nat.mul_le_mul a a
    omega
theorem stripAll_take_succ (k : Nat) (h : k < primesL.length) (x : Nat × Nat) : stripAll (primesL.take (k + 1)) x = stripP (primesL.getD k 0) (stripAll (primesL.take k) x).1 (stripAll (primesL.take k) x).2 := by
  rw [List.take_succ_eq_append_getElem h, stripAll_append, List.getD_eq_getElem?_getD, List.getElem?_eq_getElem h]; rfl

end Kp
