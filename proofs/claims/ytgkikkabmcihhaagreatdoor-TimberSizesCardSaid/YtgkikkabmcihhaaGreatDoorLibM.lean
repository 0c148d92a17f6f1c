/-
  What Go's string functions are on the strings of numbers: plain functions on bytes.
-/
import Derived.Test.YtgkikkabmcihhaaGreatDoorNat
import Derived.Lib.IndexMore
import Derived.Lib.SlTrimSet
import Derived.Lib.Strings
import Derived.Lib.AtoiTie
namespace Kp
open Go.Lib (decDigits itoa nDigits)

theorem trimPrefix_minus (s : Str) : Go.Lib.trimPrefix s [45] = unsig s := by
  unfold Go.Lib.trimPrefix Go.Lib.hasPrefix unsig
  cases s with
  | nil => simp
  | cons c r =>
    by_cases h : c = 45
    · subst h; simp
    · have : (45 == c) = false := by simpa using fun e => h e.symm
      simp [h, List.isPrefixOf, this]
theorem hasPrefix_minus (s : Str) : Go.Lib.hasPrefix s [45] = decide (s.head? = some 45) := by
  unfold Go.Lib.hasPrefix
  cases s with
  | nil => simp
  | cons c r =>
    by_cases h : c = 45
    · subst h; simp
    · have : (45 == c) = false := by simpa using fun e => h e.symm
      simp [h, List.isPrefixOf, this]

theorem index_one : ∀ (s : Str) (c : UInt8), (c ∈ s → Go.Lib.index s [c] = ((s.takeWhile (· ≠ c)).length : Int)) ∧ (¬ c ∈ s → Go.Lib.index s [c] = -1)
  | [], c => ⟨fun h => (by cases h), fun _ => by simp [Go.Lib.index]⟩
  | b :: r, c => by
    obtain ⟨h1, h2⟩ := index_one r c
    by_cases e : b = c
    · subst e
      exact ⟨fun _ => by simp [Go.Lib.index], fun h => absurd (by simp) h⟩
    · refine ⟨fun h => ?_, fun h => ?_⟩
      · have hr : c ∈ r := by rcases List.mem_cons.1 h with h | h; exact absurd h.symm e; exact h
        simp only [Go.Lib.index, h1 hr]
        have e2 : (c == b) = false := by simpa using fun x => e x.symm
        simp [e, List.isPrefixOf, e2]
      · have hr : ¬ c ∈ r := fun hr => h (by simp [hr])
        have e2 : (c == b) = false := by simpa using fun x => e x.symm
        simp only [Go.Lib.index, h2 hr]
        simp [List.isPrefixOf, e2]

theorem cut_slash (s : Str) : Go.Lib.cut s [47] = (numPart s, if hasSlash s then denPart s else [], hasSlash s) := by
  unfold Go.Lib.cut
  obtain ⟨h1, h2⟩ := index_one s 47
  by_cases h : 47 ∈ s
  · rw [h1 h, if_pos (by omega)]
    have hs : hasSlash s = true := by simpa [hasSlash] using h
    have e := take_drop_slash s h
    rw [hs, if_pos rfl]
    have hl : (s.takeWhile (· ≠ 47)).length = (numPart s).length := rfl
    rw [Int.toNat_natCast, hl]
    have e1 : s.take (numPart s).length = numPart s := by
      have := List.take_left (l₁ := numPart s) (l₂ := 47 :: denPart s)
      rw [← e] at this; exact this
    have e2 : s.drop ((numPart s).length + 1) = denPart s := by
      have := List.drop_left (l₁ := numPart s ++ [47]) (l₂ := denPart s)
      rw [List.append_assoc, List.singleton_append, ← e, List.length_append] at this
      exact this
    rw [e1, show [(47 : UInt8)].length = 1 from rfl, e2]
  · rw [h2 h, if_neg (by omega)]
    have hs : hasSlash s = false := by simpa [hasSlash] using h
    have en : numPart s = s := takeWhile_all _ _ (fun c hc => by
      simp only [ne_eq, decide_eq_true_eq]; intro e; subst e; exact h hc)
    rw [hs, en]; simp

theorem contains_slash (s : Str) : Go.Lib.contains s [47] = hasSlash s := by
  unfold Go.Lib.contains hasSlash
  obtain ⟨h1, h2⟩ := index_one s 47
  by_cases h : 47 ∈ s
  · rw [h1 h]; simp [h]
  · rw [h2 h]; simp [h]

theorem digits_contains (c : UInt8) : [(48 : UInt8), 49, 50, 51, 52, 53, 54, 55, 56, 57].contains c = isDig c := by
  have h : ∀ n : Fin 256, [(48 : UInt8), 49, 50, 51, 52, 53, 54, 55, 56, 57].contains (UInt8.ofNat n.val) = isDig (UInt8.ofNat n.val) := by decide +kernel
  have := h ⟨c.toNat, c.toNat_lt⟩
  simpa using this

theorem dropWhile_nil {α : Type} (p : α → Bool) : ∀ (l : List α), l.dropWhile p = [] ↔ ∀ x ∈ l, p x = true
  | [] => by simp
  | x :: r => by
    rw [List.dropWhile_cons]
    by_cases h : p x = true
    · rw [if_pos h, dropWhile_nil p r]; simp [h]
    · rw [if_neg h]; simp [h]

theorem trim_digits (s : Str) : (Go.Lib.trimS s [48, 49, 50, 51, 52, 53, 54, 55, 56, 57] = []) ↔ AllDig s := by
  unfold Go.Lib.trimS Go.Lib.trimLeftS Go.Lib.trimRightS AllDig
  have e : (fun x => [(48 : UInt8), 49, 50, 51, 52, 53, 54, 55, 56, 57].contains x) = isDig := funext digits_contains
  rw [e]
  constructor
  · intro h
    rw [dropWhile_nil] at h
    by_cases hr : s.reverse.dropWhile isDig = []
    · rw [dropWhile_nil] at hr
      intro c hc; exact hr c (by simpa using hc)
    · exfalso
      have h2 : ∀ x ∈ s.reverse.dropWhile isDig, isDig x = true := fun x hx => h x (by simpa using hx)
      cases hd : s.reverse.dropWhile isDig with
      | nil => exact hr hd
      | cons c r =>
        have := List.head?_dropWhile_not isDig s.reverse
        rw [hd] at this h2
        have hc := h2 c (by simp)
        simp [hc] at this
  · intro h
    have : s.reverse.dropWhile isDig = [] := (dropWhile_nil _ _).2 (fun c hc => h c (by simpa using hc))
    rw [this]; rfl

theorem decFrom_all : ∀ (l : Str) (n : Nat), AllDig l → Go.Lib.decFrom n l = some (nvalF l n)
  | [], n, _ => rfl
  | c :: r, n, h => by
    have hc := (isDig_iff c).1 (h c (by simp))
    simp only [Go.Lib.decFrom, Go.Lib.digitVal, nvalF]
    rw [if_pos hc]
    simp only
    rw [Nat.mul_comm n 10]
    exact decFrom_all r _ (fun x hx => h x (by simp [hx]))

theorem decNat_dec (n : Nat) : Go.Lib.decNat (decDigits n) = some n := by
  unfold Go.Lib.decNat
  rw [if_neg (by simpa using decDigits_ne n), decFrom_all _ _ (decDigits_dig n)]
  show some (nval (decDigits n)) = _
  rw [nval_decDigits]

theorem atoi_itoa (z : Int) : Go.Lib.atoi (itoa z) = some z := by
  by_cases h : z < 0
  · rw [itoa_neg h]
    simp only [Go.Lib.atoi]
    rw [if_pos (by decide), decNat_dec]
    simp; omega
  · rw [itoa_nonneg (by omega)]
    cases hd : decDigits z.toNat with
    | nil => exact absurd hd (decDigits_ne _)
    | cons c r =>
      have hc := (isDig_iff c).1 (decDigits_dig z.toNat c (by rw [hd]; simp))
      simp only [Go.Lib.atoi]
      rw [if_neg (by intro e; simp only [beq_iff_eq] at e; subst e; simp at hc), if_neg (by intro e; simp only [beq_iff_eq] at e; subst e; simp at hc), ← hd, decNat_dec]
      simp; omega

theorem head_at0 {s : Str} (h : s ≠ []) : s.head? = some (at0 s 0) := by
  cases s with
  | nil => exact absurd rfl h
  | cons c r => rfl
theorem unsig_len (a : Str) : (unsig a).length ≤ a.length := by
  unfold unsig; split
  · simp
  · exact Nat.le_refl _
theorem ichk_empty {a : Str} (h : unsig a = []) : ichk a = 11 := by unfold ichk; rw [if_pos (Or.inl h)]
theorem ichk_zero {a : Str} (h : unsig a ≠ []) (h0 : at0 (unsig a) 0 = 48) (h1 : a ≠ [48]) : ichk a = 11 := by
  unfold ichk; rw [if_pos (Or.inr (Or.inl ⟨by rw [head_at0 h, h0], h1⟩))]
theorem ichk_digits {a : Str} (h : ¬ AllDig (unsig a)) : ichk a = 11 := by
  have h' : ¬ (∀ c ∈ unsig a, isDig c = true) := h
  unfold ichk; rw [if_pos (Or.inr (Or.inr h'))]
theorem ichk_rest {a : Str} (h : unsig a ≠ []) (h0 : at0 (unsig a) 0 ≠ 48) (hd : AllDig (unsig a)) : ichk a = if 300 < (unsig a).length then 4 else 0 := by
  unfold ichk
  rw [if_neg]
  rintro (e | ⟨e, _⟩ | e)
  · exact h e
  · rw [head_at0 h] at e; exact h0 (Option.some.inj e)
  · exact e hd
theorem ichk_48 : ichk [48] = 0 := by rw [← itoa_zero, ichk_itoa]; rw [show lim 0 = false from by rw [lim_false]; unfold big; exact Nat.pow_pos (by decide)]; rfl

theorem tenPow18 : (10 : Nat) ^ 18 = 1000000000000000000 := by decide
theorem short_abs {x : Int} (h : (itoa x).length ≤ 18) : x.natAbs < 1000000000000000000 := by
  rw [← tenPow18, ← decDigits_len_le _ 18 (by decide)]
  by_cases hx : x < 0
  · rw [itoa_neg hx, List.length_cons] at h; omega
  · rw [itoa_nonneg (by omega)] at h; rw [show x.natAbs = x.toNat by omega]; exact h
theorem lim_small {x : Int} (h : x.natAbs < 1000000000000000000) : lim x = false := by
  rw [lim_false]; unfold big
  have : 10 ^ 18 ≤ 10 ^ maxD := Nat.pow_le_pow_right (by decide) (by rw [maxD_eq]; decide)
  rw [tenPow18] at this; omega
theorem short_lim {x : Int} (h : (itoa x).length ≤ 18) : lim x = false := lim_small (short_abs h)
theorem short_ichk {x : Int} (h : (itoa x).length ≤ 18) : ichk (itoa x) = 0 := by rw [ichk_itoa, short_lim h]; rfl
theorem itoa_short {x : Int} (h : x.natAbs < 100000000000000000) : (itoa x).length ≤ 18 := by
  have h17 : (decDigits x.natAbs).length ≤ 17 := (decDigits_len_le _ 17 (by decide)).2 (by simpa using h)
  by_cases hx : x < 0
  · rw [itoa_neg hx, List.length_cons]; omega
  · rw [itoa_nonneg (by omega), show x.toNat = x.natAbs by omega]; omega
theorem itoa_ne (x : Int) : itoa x ≠ [] := by
  by_cases hx : x < 0
  · rw [itoa_neg hx]; simp
  · rw [itoa_nonneg (by omega)]; exact decDigits_ne _

theorem itoa_abs_len (x : Int) : (decDigits x.natAbs).length ≤ (itoa x).length := by
  by_cases hx : x < 0
  · rw [itoa_neg hx, List.length_cons]; omega
  · rw [itoa_nonneg (by omega), show x.toNat = x.natAbs by omega]; omega
/-- Short factors have a product that fits. -/
theorem mul_bound {x y : Int} (h : (itoa x).length + (itoa y).length ≤ 18) : -1000000000000000000 ≤ x * y ∧ x * y ≤ 1000000000000000000 := by
  have h1 := itoa_abs_len x
  have h2 := itoa_abs_len y
  have p1 := List.length_pos_iff.2 (decDigits_ne x.natAbs)
  have p2 := List.length_pos_iff.2 (decDigits_ne y.natAbs)
  have a1 := (decDigits_len_le x.natAbs (decDigits x.natAbs).length p1).1 (Nat.le_refl _)
  have a2 := (decDigits_len_le y.natAbs (decDigits y.natAbs).length p2).1 (Nat.le_refl _)
  have h3 : x.natAbs * y.natAbs ≤ 10 ^ (decDigits x.natAbs).length * 10 ^ (decDigits y.natAbs).length := Nat.mul_le_mul (by omega) (by omega)
  rw [← Nat.pow_add] at h3
  have h4 : 10 ^ ((decDigits x.natAbs).length + (decDigits y.natAbs).length) ≤ 10 ^ 18 := Nat.pow_le_pow_right (by decide) (by omega)
  rw [tenPow18] at h4
  rw [← Int.natAbs_mul] at h3
  omega

theorem floor_spec {x y q r : Int} (h : x = y * q + r) (hr : (0 ≤ r ∧ r < y) ∨ (y < r ∧ r ≤ 0)) : x.fdiv y = q ∧ x.fmod y = r := by
  have key : x.fdiv y = q := by
    rcases hr with ⟨h0, h1⟩ | ⟨h0, h1⟩
    · rw [Int.fdiv_eq_ediv_of_nonneg _ (by omega), h, Int.add_comm, Int.add_mul_ediv_left _ _ (by omega), Int.ediv_eq_zero_of_lt h0 h1]; omega
    · rw [← Int.neg_fdiv_neg, Int.fdiv_eq_ediv_of_nonneg _ (by omega), h, show -(y * q + r) = -r + (-y) * q by rw [Int.neg_mul]; omega, Int.add_mul_ediv_left _ _ (by omega), Int.ediv_eq_zero_of_lt (by omega) (by omega)]; omega
  refine ⟨key, ?_⟩
  rw [Int.fmod_def, key]; omega
theorem trunc_floor {x y : Int} (hy : y ≠ 0) :
    (x.tmod y = 0 → x.fdiv y = x.tdiv y ∧ x.fmod y = x.tmod y) ∧
    (x.tmod y ≠ 0 → (decide (x.tmod y < 0) == decide (y < 0)) = true → x.fdiv y = x.tdiv y ∧ x.fmod y = x.tmod y) ∧
    (x.tmod y ≠ 0 → (decide (x.tmod y < 0) == decide (y < 0)) = false → x.fdiv y = x.tdiv y - 1 ∧ x.fmod y = x.tmod y + y) := by
  have h := Int.tmod_add_mul_tdiv x y
  have hl : (x.tmod y).natAbs < y.natAbs := by rw [Int.natAbs_tmod]; exact Nat.mod_lt _ (by omega)
  generalize x.tmod y = r at *
  generalize x.tdiv y = q at *
  refine ⟨fun e => floor_spec (by omega) (by omega), fun e d => floor_spec (by omega) ?_, fun e d => floor_spec (by rw [Int.mul_sub]; omega) ?_⟩
  · by_cases a : r < 0 <;> by_cases b : y < 0 <;> simp [a, b] at d <;> omega
  · by_cases a : r < 0 <;> by_cases b : y < 0 <;> simp [a, b] at d <;> omega
theorem tdiv_abs (x y : Int) : (x.tdiv y).natAbs ≤ x.natAbs := by
  rw [Int.natAbs_tdiv]; exact Nat.div_le_self _ _
theorem tmod_abs (x y : Int) (hy : y ≠ 0) : (x.tmod y).natAbs < y.natAbs := by
  rw [Int.natAbs_tmod]; exact Nat.mod_lt _ (by omega)

end Kp
