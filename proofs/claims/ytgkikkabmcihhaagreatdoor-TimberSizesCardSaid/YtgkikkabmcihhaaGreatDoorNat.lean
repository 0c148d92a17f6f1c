/-
  Numbers with short parts, as the program reads them: plain functions on bytes.
-/
import Derived.Test.YtgkikkabmcihhaaGreatDoorRat
namespace Kp
open Go.Lib (decDigits itoa nDigits)

/-- Digits ahead, at most 9 of them. -/
def natPre (s : Str) : Nat := ((s.take 9).takeWhile isDig).length
def natOk (s : Str) : Bool := decide (0 < natPre s ∧ natPre s ≤ 8 ∧ ¬ (1 < natPre s ∧ at0 s 0 = 48))
def natN (s : Str) : Nat := if natOk s then nval (s.take (natPre s)) else 0
def natRest (s : Str) : Str := if natOk s then s.drop (natPre s) else []

def AllDig (s : Str) : Prop := ∀ c ∈ s, isDig c = true

theorem AllDig.nil : AllDig [] := by intro c hc; cases hc
theorem AllDig.snoc {s : Str} {k : Nat} (h : AllDig (s.take k)) (hk : k < s.length) (hd : isDig (at0 s k) = true) : AllDig (s.take (k + 1)) := by
  rw [List.take_succ_eq_append_getElem hk]
  intro c hc
  rcases List.mem_append.1 hc with hc | hc
  · exact h c hc
  · simp only [List.mem_singleton] at hc
    subst hc
    rw [at0_get s k hk] at hd
    exact hd

theorem takeWhile_len_all {α : Type} (p : α → Bool) : ∀ (l : List α), (∀ x ∈ l, p x = true) → (l.takeWhile p).length = l.length
  | l, h => by rw [takeWhile_all p l h]

theorem natPre_of {s : Str} {k : Nat} (h : AllDig (s.take k)) (hk : k ≤ s.length) (hk9 : k ≤ 9) (stop : k = s.length ∨ k = 9 ∨ isDig (at0 s k) = false) : natPre s = k := by
  unfold natPre
  by_cases h9 : k = 9 ∨ k = s.length
  · have e : s.take 9 = s.take k := by
      rcases h9 with h9 | h9
      · rw [h9]
      · rw [List.take_of_length_le (by omega), List.take_of_length_le (by omega)]
    rw [e, takeWhile_len_all _ _ h, List.length_take]; omega
  · have hd : isDig (at0 s k) = false := by
      rcases stop with e | e | e
      · exact absurd (Or.inr e) h9
      · exact absurd (Or.inl e) h9
      · exact e
    have hlt : k < s.length := by omega
    have e : s.take 9 = s.take k ++ at0 s k :: (s.drop (k + 1)).take (8 - k) := by
      conv => lhs; rw [← List.take_append_drop k s]
      rw [List.take_append, List.length_take, Nat.min_eq_left (by omega), List.take_of_length_le (by rw [List.length_take]; omega)]
      rw [List.drop_eq_getElem_cons hlt, at0_get s k hlt, show 9 - k = (8 - k) + 1 by omega, List.take_succ_cons]
    rw [e, takeWhile_stop _ _ _ hd _ h, List.length_take]; omega

theorem nval_take_succ {s : Str} {k : Nat} (hk : k < s.length) : nval (s.take (k + 1)) = 10 * nval (s.take k) + ((at0 s k).toNat - 48) := by
  rw [List.take_succ_eq_append_getElem hk, nval_snoc, at0_get s k hk]

theorem isDig_iff (c : UInt8) : isDig c = true ↔ 48 ≤ c.toNat ∧ c.toNat ≤ 57 := by simp [isDig]
theorem isDig_false_iff (c : UInt8) : isDig c = false ↔ c.toNat < 48 ∨ 57 < c.toNat := by
  rw [Bool.eq_false_iff, ne_eq, isDig_iff]; omega

theorem nval_take_lt {s : Str} {k : Nat} (h : AllDig (s.take k)) : nval (s.take k) < 10 ^ k := by
  have h1 := nval_lt _ h
  have h2 : 10 ^ (s.take k).length ≤ 10 ^ k := Nat.pow_le_pow_right (by decide) (by rw [List.length_take]; omega)
  omega

theorem nat_fail {s : Str} {k : Nat} (h : natPre s = k) (hk : k = 0 ∨ 8 < k ∨ (1 < k ∧ at0 s 0 = 48)) : natOk s = false ∧ natN s = 0 ∧ natRest s = [] := by
  have e : natOk s = false := by
    unfold natOk; rw [h, decide_eq_false_iff_not]
    rintro ⟨a, b, c⟩
    rcases hk with hk | hk | hk
    · omega
    · omega
    · exact c hk
  exact ⟨e, by unfold natN; rw [e]; rfl, by unfold natRest; rw [e]; rfl⟩
theorem nat_good {s : Str} {k : Nat} (h : natPre s = k) (h0 : 0 < k) (h8 : k ≤ 8) (hz : k = 1 ∨ at0 s 0 ≠ 48) : natOk s = true ∧ natN s = nval (s.take k) ∧ natRest s = s.drop k := by
  have e : natOk s = true := by
    unfold natOk; rw [h, decide_eq_true_eq]; exact ⟨h0, h8, fun ⟨a, b⟩ => hz.elim (fun c => by omega) (fun c => c b)⟩
  exact ⟨e, by unfold natN; rw [e, h]; rfl, by unfold natRest; rw [e, h]; rfl⟩
theorem toNat48 (c : UInt8) : ((c.toNat : Int) == 48) = decide (c = 48) := by
  by_cases h : c = 48
  · subst h; rfl
  · have : c.toNat ≠ 48 := fun e => h (UInt8.toNat_inj.1 e)
    simp [h]; omega

end Kp
