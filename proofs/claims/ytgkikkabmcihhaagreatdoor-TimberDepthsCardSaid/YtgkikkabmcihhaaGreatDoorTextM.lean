/-
  The text of sizes: no program.
-/
import Derived.Test.YtgkikkabmcihhaaGreatDoorTimberM
import Derived.Test.YtgkikkabmcihhaaGreatDoorMA
namespace Kp
open Go.Lib (decDigits itoa nDigits)

/-- The words of the kinds, behind an empty one. -/
def wordStrs : List Str := [[], [99, 111, 109, 109, 111, 110], [104, 105, 112, 106, 97, 99, 107], [118, 97, 108, 108, 101, 121, 106, 97, 99, 107], [99, 114, 105, 112, 112, 108, 101], [111, 116, 104, 101, 114], [104, 105, 112], [118, 97, 108, 108, 101, 121], [114, 105, 100, 103, 101], [112, 117, 114, 108, 105, 110], [112, 108, 97, 116, 101], [116, 114, 105, 109, 109, 101, 114], [104, 101, 97, 100, 101, 114]]

/-- The line of a size. -/
def sline (s : Sz) : Str := wordStrs.getD s.k.toNat [] ++ [32] ++ itoa s.w ++ [32] ++ itoa s.d ++ [10]
/-- The text of sizes. -/
def sprint (l : List Sz) : Str := l.flatMap sline

/-- What stands ahead of the first c, and behind it; whether there is one. -/
def bef (c : UInt8) (s : Str) : Str := s.takeWhile (· ≠ c)
def aft (c : UInt8) (s : Str) : Str := (s.dropWhile (· ≠ c)).tail
def has (c : UInt8) (s : Str) : Bool := decide (c ∈ s)

theorem bef_app {c : UInt8} {x y : Str} (h : ¬ c ∈ x) : bef c (x ++ c :: y) = x :=
  takeWhile_stop _ _ _ (by simp) _ (fun z hz => by simp only [ne_eq, decide_eq_true_eq]; intro e; subst e; exact h hz)
theorem aft_app {c : UInt8} {x y : Str} (h : ¬ c ∈ x) : aft c (x ++ c :: y) = y := by
  unfold aft
  rw [dropWhile_stop _ c y (by simp) x (fun z hz => by simp only [ne_eq, decide_eq_true_eq]; intro e; subst e; exact h hz)]; rfl
theorem has_app {c : UInt8} {x y : Str} : has c (x ++ c :: y) = true := by simp [has]
theorem bef_not {c : UInt8} : ∀ (s : Str), ¬ c ∈ bef c s
  | [] => by simp [bef]
  | b :: r => by
    have ih := bef_not (c := c) r
    unfold bef at *
    by_cases h : b = c
    · subst h; simp
    · rw [List.takeWhile_cons_of_pos (by simpa using h)]
      intro hm
      rcases List.mem_cons.1 hm with e | e
      · exact h e.symm
      · exact ih e
theorem app_has {c : UInt8} : ∀ (s : Str), has c s = true → s = bef c s ++ c :: aft c s
  | [], h => by simp [has] at h
  | b :: r, h => by
    by_cases e : b = c
    · subst e; simp [bef, aft]
    · have hr : has c r = true := by
        simp only [has, decide_eq_true_eq, List.mem_cons] at h ⊢
        rcases h with h | h
        · exact absurd h.symm e
        · exact h
      have ih := app_has r hr
      have e1 : bef c (b :: r) = b :: bef c r := by unfold bef; rw [List.takeWhile_cons_of_pos (by simpa using e)]
      have e2 : aft c (b :: r) = aft c r := by unfold aft; rw [List.dropWhile_cons_of_pos (by simpa using e)]
      rw [e1, e2, List.cons_append, ← ih]
theorem has_false {c : UInt8} {s : Str} (h : has c s = false) : bef c s = s ∧ aft c s = [] := by
  have hm : ¬ c ∈ s := by simpa [has] using h
  have e : ∀ x ∈ s, decide (x ≠ c) = true := fun z hz => by simp only [ne_eq, decide_eq_true_eq]; intro e; subst e; exact hm hz
  refine ⟨takeWhile_all _ _ e, ?_⟩
  unfold aft; rw [(dropWhile_nil _ _).2 e]; rfl
theorem aft_len {c : UInt8} (s : Str) : (aft c s).length ≤ s.length := by
  unfold aft; rw [List.length_tail]; have := (List.dropWhile_sublist (p := fun x => decide (x ≠ c)) (l := s)).length_le; omega
theorem bef_len {c : UInt8} (s : Str) : (bef c s).length ≤ s.length := (List.takeWhile_sublist _).length_le
theorem aft_lt {c : UInt8} (s : Str) (h : has c s = true) : (aft c s).length < s.length := by
  have := congrArg List.length (app_has s h); simp only [List.length_append, List.length_cons] at this; omega
theorem cut_one (c : UInt8) (s : Str) : Go.Lib.cut s [c] = (bef c s, aft c s, has c s) := by
  unfold Go.Lib.cut
  obtain ⟨h1, h2⟩ := index_one s c
  cases hb : has c s with
  | true =>
    have h : c ∈ s := by simpa [has] using hb
    rw [h1 h, if_pos (by omega), Int.toNat_natCast]
    have e := app_has s hb
    have hl : (s.takeWhile (· ≠ c)).length = (bef c s).length := rfl
    rw [hl]
    have e1 : s.take (bef c s).length = bef c s := by
      have := List.take_left (l₁ := bef c s) (l₂ := c :: aft c s)
      rw [← e] at this; exact this
    have e2 : s.drop ((bef c s).length + 1) = aft c s := by
      have := List.drop_left (l₁ := bef c s ++ [c]) (l₂ := aft c s)
      rw [List.append_assoc, List.singleton_append, ← e, List.length_append] at this
      exact this
    rw [e1, show [c].length = 1 from rfl, e2]
  | false =>
    have h : ¬ c ∈ s := by simpa [has] using hb
    rw [h2 h, if_neg (by omega), (has_false hb).1, (has_false hb).2]

/-- A string is the numeral of a number of at most 4 digits. -/
def numOk (s : Str) : Bool := decide (s.length ≤ 4 ∧ decDigits (nval s) = s)
/-- A line is right; its size. -/
def lineOk (s : Str) : Bool := has 32 (aft 32 s) && decide (bef 32 s ≠ []) && decide (bef 32 s ∈ wordStrs) && numOk (bef 32 (aft 32 s)) && numOk (aft 32 (aft 32 s))
def lineSz (s : Str) : Sz := ⟨wordStrs.idxOf (bef 32 s), nval (bef 32 (aft 32 s)), nval (aft 32 (aft 32 s))⟩

/-- The sizes of a text, if each line is right. -/
def parseL (s : Str) : Option (List Sz) :=
  if s = [] then some [] else if _h : has 10 s = true ∧ lineOk (bef 10 s) = true then (parseL (aft 10 s)).map (lineSz (bef 10 s) :: ·) else none
termination_by s.length
decreasing_by exact aft_lt s _h.1

theorem parseL_nil : parseL [] = some [] := by rw [parseL, if_pos rfl]
theorem parseL_cons {s : Str} (h0 : s ≠ []) (h1 : has 10 s = true) (h2 : lineOk (bef 10 s) = true) : parseL s = (parseL (aft 10 s)).map (lineSz (bef 10 s) :: ·) := by
  rw [parseL, if_neg h0, dif_pos ⟨h1, h2⟩]
theorem parseL_bad {s : Str} (h0 : s ≠ []) (h : has 10 s = false ∨ lineOk (bef 10 s) = false) : parseL s = none := by
  rw [parseL, if_neg h0, dif_neg]
  rintro ⟨h1, h2⟩
  rcases h with h | h
  · rw [h1] at h; cases h
  · rw [h2] at h; cases h

theorem words_plain : ∀ j : Nat, j < 13 → ¬ (32 : UInt8) ∈ wordStrs.getD j [] ∧ ¬ (10 : UInt8) ∈ wordStrs.getD j [] ∧ wordStrs.idxOf (wordStrs.getD j []) = j ∧ (0 < j → wordStrs.getD j [] ≠ []) ∧ wordStrs.getD j [] ∈ wordStrs := by decide
theorem wordStrs_len : wordStrs.length = 13 := rfl
theorem dec_plain (n : Nat) (c : UInt8) (h : isDig c = false) : ¬ c ∈ decDigits n := fun hm => by rw [decDigits_dig n c hm] at h; cases h
theorem itoa_plain {z : Int} (h0 : 0 ≤ z) (c : UInt8) (h : isDig c = false) : ¬ c ∈ itoa z := by rw [itoa_nonneg h0]; exact dec_plain _ _ h
theorem numOk_dec {n : Nat} (h : n < 10000) : numOk (decDigits n) = true := by
  simp only [numOk, decide_eq_true_eq]
  exact ⟨(decDigits_len_le n 4 (by decide)).2 (by omega), by rw [nval_decDigits]⟩
theorem numOk_iff {s : Str} : numOk s = true ↔ ∃ n : Nat, n < 10000 ∧ s = decDigits n := by
  constructor
  · intro h
    simp only [numOk, decide_eq_true_eq] at h
    exact ⟨nval s, (decDigits_len_le _ 4 (by decide)).1 (by rw [h.2]; exact h.1), h.2.symm⟩
  · rintro ⟨n, h, rfl⟩
    exact numOk_dec h

/-- The line without its end. -/
def sbody (s : Sz) : Str := wordStrs.getD s.k.toNat [] ++ 32 :: (itoa s.w ++ 32 :: itoa s.d)
theorem sline_eq (s : Sz) : sline s = sbody s ++ [10] := by unfold sline sbody; simp

theorem sbody_facts {s : Sz} (h : s.ok) : ¬ (10 : UInt8) ∈ sbody s ∧ lineOk (sbody s) = true ∧ lineSz (sbody s) = s := by
  obtain ⟨h1, h2, h3, h4, h5, h6⟩ := h
  obtain ⟨p1, p2, p3, p4, p5⟩ := words_plain s.k.toNat (by omega)
  have ew := itoa_nonneg (z := s.w) (by omega)
  have ed := itoa_nonneg (z := s.d) (by omega)
  have w1 := dec_plain s.w.toNat 32 (by decide)
  have w2 := dec_plain s.w.toNat 10 (by decide)
  have d2 := dec_plain s.d.toNat 10 (by decide)
  have b1 : bef 32 (sbody s) = wordStrs.getD s.k.toNat [] := by unfold sbody; exact bef_app p1
  have b2 : aft 32 (sbody s) = decDigits s.w.toNat ++ 32 :: decDigits s.d.toNat := by unfold sbody; rw [aft_app p1, ew, ed]
  refine ⟨?_, ?_, ?_⟩
  · unfold sbody; rw [ew, ed]
    simp only [List.mem_append, List.mem_cons, not_or]
    exact ⟨p2, by decide, w2, by decide, d2⟩
  · unfold lineOk; rw [b1, b2, bef_app w1, aft_app w1, has_app, numOk_dec (by omega), numOk_dec (by omega), decide_eq_true (p4 (by omega)), decide_eq_true p5]; rfl
  · unfold lineSz; rw [b1, b2, bef_app w1, aft_app w1, nval_decDigits, nval_decDigits, p3]
    cases s; simp only [Sz.mk.injEq] at *; omega

theorem sprint_cons (s : Sz) (l : List Sz) : sprint (s :: l) = sbody s ++ 10 :: sprint l := by
  unfold sprint; rw [List.flatMap_cons, sline_eq]; simp

/-- The text of sizes shows them. -/
theorem parse_print : ∀ (l : List Sz), (∀ s ∈ l, s.ok) → parseL (sprint l) = some l
  | [], _ => parseL_nil
  | s :: l, h => by
    obtain ⟨f1, f2, f3⟩ := sbody_facts (h s (by simp))
    rw [sprint_cons, parseL_cons (by simp) has_app (by rw [bef_app f1]; exact f2), bef_app f1, aft_app f1, parse_print l (fun x hx => h x (by simp [hx])), f3]
    rfl

theorem lineOk_body {s : Str} (h : lineOk s = true) : s = sbody (lineSz s) := by
  unfold lineOk at h
  simp only [Bool.and_eq_true, decide_eq_true_eq] at h
  obtain ⟨⟨⟨⟨h1, h2⟩, h3⟩, h4⟩, h5⟩ := h
  have hs : has 32 s = true := by
    cases hb : has 32 s with
    | true => rfl
    | false => rw [(has_false hb).2] at h1; simp [has] at h1
  have e1 := app_has s hs
  have e2 := app_has _ h1
  obtain ⟨n, hn, en⟩ := numOk_iff.1 h4
  obtain ⟨m, hm, em⟩ := numOk_iff.1 h5
  have ek : wordStrs.getD (wordStrs.idxOf (bef 32 s)) [] = bef 32 s := by
    rw [List.getD_eq_getElem?_getD, List.getElem?_eq_getElem (List.idxOf_lt_length_of_mem h3)]
    simp
  unfold sbody lineSz
  simp only [Int.toNat_natCast]
  rw [ek, itoa_nonneg (by omega), itoa_nonneg (by omega), Int.toNat_natCast, Int.toNat_natCast, en, em, nval_decDigits, nval_decDigits, ← en, ← em, ← e2, ← e1]

/-- A text whose lines are right is that of its sizes. -/
theorem print_parse : ∀ (n : Nat) (s : Str) (l : List Sz), s.length ≤ n → parseL s = some l → sprint l = s
  | 0, s, l, hn, h => by
    have : s = [] := List.eq_nil_of_length_eq_zero (by omega)
    subst this
    rw [parseL_nil] at h; injection h with h; subst h; rfl
  | n + 1, s, l, hn, h => by
    by_cases h0 : s = []
    · subst h0; rw [parseL_nil] at h; injection h with h; subst h; rfl
    · cases h1 : has 10 s with
      | false => rw [parseL_bad h0 (.inl h1)] at h; cases h
      | true =>
        cases h2 : lineOk (bef 10 s) with
        | false => rw [parseL_bad h0 (.inr h2)] at h; cases h
        | true =>
          rw [parseL_cons h0 h1 h2] at h
          have hlt := aft_lt s h1
          cases h3 : parseL (aft 10 s) with
          | none => rw [h3] at h; cases h
          | some m =>
            rw [h3] at h; simp only [Option.map_some, Option.some.injEq] at h; subst h
            rw [sprint_cons, print_parse n _ m (by omega) h3, ← lineOk_body h2, ← app_has s h1]

theorem count_body {s : Sz} (h : s.ok) : (sbody s).count 10 = 0 := List.count_eq_zero.2 (sbody_facts h).1
theorem count_print : ∀ (l : List Sz), (∀ s ∈ l, s.ok) → (sprint l).count 10 = l.length
  | [], _ => rfl
  | s :: l, h => by
    rw [sprint_cons, List.count_append, List.count_cons, count_body (h s (by simp)), count_print l (fun x hx => h x (by simp [hx]))]; simp

end Kp
