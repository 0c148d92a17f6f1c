import Derived.Lib.ItoaNum
import Derived.Lib.AtoiAll
namespace Kp
open Go.Lib (decDigits itoa nDigits)

abbrev Str := List UInt8

/-- The byte at a place (0 beyond the end). -/
def at0 (s : Str) (k : Nat) : UInt8 := s.getD k 0
theorem at0_eq (s : Str) (k : Nat) : at0 s k = s.getD k 0 := rfl
theorem at0_get (s : Str) (k : Nat) (h : k < s.length) : at0 s k = s[k] := by
  unfold at0; rw [List.getD_eq_getElem?_getD, List.getElem?_eq_getElem h]; rfl
/-- Behind the first k bytes; the first k bytes. -/
def dropS (s : Str) (k : Nat) : Str := s.drop k
def takeS (s : Str) (k : Nat) : Str := s.take k
theorem dropS_len (s : Str) (k : Nat) : (dropS s k).length = s.length - k := by simp [dropS]
theorem takeS_len (s : Str) (k : Nat) : (takeS s k).length = min k s.length := by simp [takeS]
/-- The number at a place (0 beyond the end). -/
def nth (l : List Int) (k : Nat) : Int := l.getD k 0

/-- A decimal digit. -/
def isDig (c : UInt8) : Bool := decide (48 ≤ c.toNat) && decide (c.toNat ≤ 57)
/-- The number that a row of digits spells, behind n. -/
def nvalF : Str → Nat → Nat
  | [], n => n
  | c :: r, n => nvalF r (10 * n + (c.toNat - 48))
def nval (l : Str) : Nat := nvalF l 0

theorem nvalF_append (l m : Str) : ∀ n, nvalF (l ++ m) n = nvalF m (nvalF l n) := by
  induction l with
  | nil => intro n; rfl
  | cons c r ih => intro n; exact ih _

theorem nvalF_eq (l : Str) : ∀ n, nvalF l n = n * 10 ^ l.length + nval l := by
  induction l with
  | nil => intro n; simp [nvalF, nval]
  | cons c r ih =>
    intro n
    simp only [nvalF, nval, List.length_cons]
    rw [ih, ih (10 * 0 + (c.toNat - 48)), Nat.pow_succ]
    rw [Nat.add_mul, Nat.add_mul]
    simp only [Nat.mul_zero, Nat.zero_mul, Nat.zero_add]
    rw [Nat.mul_comm 10 n, Nat.mul_assoc, Nat.mul_comm 10 (10 ^ r.length)]
    omega

theorem nval_append (l m : Str) : nval (l ++ m) = nval l * 10 ^ m.length + nval m := by
  unfold nval; rw [nvalF_append, nvalF_eq]; rfl

theorem nval_snoc (l : Str) (c : UInt8) : nval (l ++ [c]) = 10 * nval l + (c.toNat - 48) := by
  rw [nval_append]; simp [nval, nvalF]; omega

theorem nval_cons (c : UInt8) (l : Str) : nval (c :: l) = (c.toNat - 48) * 10 ^ l.length + nval l := by
  rw [show c :: l = [c] ++ l from rfl, nval_append]; simp [nval, nvalF]

theorem nval_lt : ∀ (l : Str), (∀ c ∈ l, isDig c = true) → nval l < 10 ^ l.length
  | [], _ => by simp [nval, nvalF]
  | c :: r, h => by
    have h1 := nval_lt r (fun x hx => h x (by simp [hx]))
    have h2 := h c (by simp)
    simp only [isDig, Bool.and_eq_true, decide_eq_true_eq] at h2
    rw [nval_cons, List.length_cons, Nat.pow_succ]
    have : (c.toNat - 48) * 10 ^ r.length ≤ 9 * 10 ^ r.length := Nat.mul_le_mul_right _ (by omega)
    omega

theorem digit_toNat {k : Nat} (h : k < 10) : (UInt8.ofNat (48 + k)).toNat = 48 + k := by
  simp [UInt8.toNat_ofNat']; omega

theorem decDigits_dig (n : Nat) : ∀ c ∈ decDigits n, isDig c = true := by
  induction n using Nat.strongRecOn with
  | _ n ih =>
    intro c hc
    rw [decDigits] at hc
    split at hc
    · next h => 
      simp only [List.mem_singleton] at hc; subst hc
      simp only [isDig, digit_toNat h]; simp; omega
    · next h =>
      simp only [List.mem_append, List.mem_singleton] at hc
      rcases hc with hc | hc
      · exact ih (n / 10) (by omega) c hc
      · subst hc
        simp only [isDig, digit_toNat (show n % 10 < 10 by omega)]; simp; omega

theorem nval_decDigits (n : Nat) : nval (decDigits n) = n := by
  induction n using Nat.strongRecOn with
  | _ n ih =>
    rw [decDigits]
    split
    · next h => simp [nval, nvalF]; omega
    · next h =>
      rw [nval_snoc, ih (n / 10) (by omega), digit_toNat (show n % 10 < 10 by omega)]; omega

theorem decDigits_ne (n : Nat) : decDigits n ≠ [] := by
  rw [decDigits]; split <;> simp

theorem head?_app {α : Type} (l m : List α) (h : l ≠ []) : (l ++ m).head? = l.head? := by
  cases l with
  | nil => exact absurd rfl h
  | cons a t => rfl

theorem decDigits_head (n : Nat) (h : 0 < n) : (decDigits n).head? ≠ some 48 := by
  induction n using Nat.strongRecOn with
  | _ n ih =>
    rw [decDigits]
    split
    · next h10 =>
      intro e
      simp only [List.head?_cons, Option.some.injEq] at e
      have := congrArg UInt8.toNat e
      rw [digit_toNat h10] at this
      simp at this; omega
    · next h10 =>
      rw [head?_app _ _ (decDigits_ne _)]
      exact ih _ (by omega) (by omega)

/-- A row of digits without a leading zero is the numeral of its number. -/
theorem decDigits_nval : ∀ (l : Str), l ≠ [] → (∀ c ∈ l, isDig c = true) → (l.head? = some 48 → l = [48]) → decDigits (nval l) = l := by
  intro l
  induction hn : l.length using Nat.strongRecOn generalizing l with
  | _ n ih =>
    intro hne hd hz
    obtain ⟨m, c, rfl⟩ : ∃ m c, l = m ++ [c] := ⟨l.dropLast, l.getLast hne, (List.dropLast_concat_getLast hne).symm⟩
    have hc := hd c (by simp)
    simp only [isDig, Bool.and_eq_true, decide_eq_true_eq] at hc
    rw [nval_snoc]
    by_cases hm : m = []
    · subst hm
      rw [show 10 * nval [] + (c.toNat - 48) = c.toNat - 48 by simp [nval, nvalF]]
      rw [decDigits, dif_pos (by omega)]
      simp only [List.nil_append, List.cons.injEq, and_true]
      apply UInt8.toNat_inj.1; rw [digit_toNat (by omega)]; omega
    · have hm0 : m.head? ≠ some 48 := by
        intro e
        have := hz (by rw [head?_app _ _ hm]; exact e)
        cases m with
        | nil => exact hm rfl
        | cons a t => simp at this
      have hpos : 0 < nval m := by
        cases m with
        | nil => exact absurd rfl hm
        | cons a t =>
          rw [nval_cons]
          have ha := hd a (by simp)
          simp only [isDig, Bool.and_eq_true, decide_eq_true_eq] at ha
          have : a.toNat ≠ 48 := by
            intro e; apply hm0; simp only [List.head?_cons]; congr 1; apply UInt8.toNat_inj.1; simp [e]
          have : 0 < (a.toNat - 48) * 10 ^ t.length := Nat.mul_pos (by omega) (Nat.pow_pos (by decide))
          omega
      rw [decDigits, dif_neg (by omega)]
      rw [show (10 * nval m + (c.toNat - 48)) / 10 = nval m by omega, show (10 * nval m + (c.toNat - 48)) % 10 = c.toNat - 48 by omega]
      rw [ih m.length (by simp at hn; omega) m rfl hm (fun x hx => hd x (by simp [hx])) (fun e => absurd e hm0)]
      congr 1
      simp only [List.cons.injEq, and_true]
      apply UInt8.toNat_inj.1; rw [digit_toNat (by omega)]; omega

theorem decDigits_len_le (n k : Nat) (hk : 0 < k) : (decDigits n).length ≤ k ↔ n < 10 ^ k := by
  rw [Go.Lib.decDigits_length]
  constructor
  · intro h
    exact Nat.lt_of_lt_of_le (Go.Lib.lt_pow_nDigits n) (Nat.pow_le_pow_right (by decide) h)
  · intro h
    induction k generalizing n with
    | zero => omega
    | succ k ih =>
      by_cases h10 : n < 10
      · rw [Go.Lib.nDigits_small h10]; omega
      · rw [Go.Lib.nDigits_big h10]
        rw [Nat.pow_succ] at h
        by_cases hk0 : k = 0
        · subst hk0; simp at h; omega
        · have := ih (n / 10) (by omega) (by omega); omega

end Kp
