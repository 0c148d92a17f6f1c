/-
  Numbers with short parts, as the program reads them (nativeOf): just the numbers whose parts have at most 8 digits.
-/
import Derived.Test.YthokehkdpmbeaaaGreatDoorMA
namespace Kp
open Go.Lib (decDigits itoa nDigits)

theorem natPre_prefix (s : Str) : AllDig (s.take (natPre s)) ∧ natPre s ≤ s.length ∧ natPre s ≤ 9 ∧ (natPre s = s.length ∨ natPre s = 9 ∨ isDig (at0 s (natPre s)) = false) := by
  suffices h : ∃ k, AllDig (s.take k) ∧ k ≤ s.length ∧ k ≤ 9 ∧ (k = s.length ∨ k = 9 ∨ isDig (at0 s k) = false) by
    obtain ⟨k, h1, h2, h3, h4⟩ := h
    have := natPre_of h1 h2 h3 h4
    rw [this]; exact ⟨h1, h2, h3, h4⟩
  have step : ∀ n k, 9 - k = n → AllDig (s.take k) → k ≤ s.length → k ≤ 9 → ∃ k, AllDig (s.take k) ∧ k ≤ s.length ∧ k ≤ 9 ∧ (k = s.length ∨ k = 9 ∨ isDig (at0 s k) = false) := by
    intro n
    induction n with
    | zero => intro k hk h1 h2 h3; exact ⟨k, h1, h2, h3, .inr (.inl (by omega))⟩
    | succ n ih =>
      intro k hk h1 h2 h3
      by_cases hl : k = s.length
      · exact ⟨k, h1, h2, h3, .inl hl⟩
      · cases hd : isDig (at0 s k) with
        | false => exact ⟨k, h1, h2, h3, .inr (.inr hd)⟩
        | true => exact ih (k + 1) (by omega) (h1.snoc (by omega) hd) (by omega) (by omega)
  exact step 9 0 rfl (by simp [AllDig]) (by omega) (by omega)

theorem natOk_parts {s : Str} (h : natOk s = true) : s = decDigits (natN s) ++ natRest s ∧ natN s < 100000000 ∧ (natRest s = [] ∨ isDig (at0 (natRest s) 0) = false) := by
  obtain ⟨h1, h2, h3, h4⟩ := natPre_prefix s
  have hk := h
  unfold natOk at hk
  rw [decide_eq_true_eq] at hk
  obtain ⟨k0, k8, kz⟩ := hk
  have en : natN s = nval (s.take (natPre s)) := by unfold natN; rw [h]; rfl
  have er : natRest s = s.drop (natPre s) := by unfold natRest; rw [h]; rfl
  have hne : s.take (natPre s) ≠ [] := by
    intro e
    have := congrArg List.length e
    rw [List.length_take, List.length_nil] at this; omega
  have hd : decDigits (natN s) = s.take (natPre s) := by
    rw [en]
    refine decDigits_nval _ hne h1 (fun e => ?_)
    have h00 : at0 s 0 = 48 := by
      cases s with
      | nil => simp at h2; omega
      | cons c r =>
        rw [show natPre (c :: r) = (natPre (c :: r) - 1) + 1 by omega, List.take_succ_cons] at e
        simp only [List.head?_cons, Option.some.injEq] at e
        exact e
    have h1' : natPre s = 1 := by
      by_cases h' : 1 < natPre s
      · exact absurd ⟨h', h00⟩ kz
      · omega
    rw [h1']
    cases s with
    | nil => simp at h2; omega
    | cons c r => simp only [at0, List.getD_cons_zero] at h00; subst h00; rfl
  refine ⟨by rw [hd, er, List.take_append_drop], ?_, ?_⟩
  · have h8 : natN s < 10 ^ 8 := by
      rw [en]; exact Nat.lt_of_lt_of_le (nval_take_lt h1) (Nat.pow_le_pow_right (by decide) k8)
    simpa using h8
  · rw [er]
    rcases h4 with e | e | e
    · left; rw [e]; exact List.drop_length
    · omega
    · right
      have : at0 (s.drop (natPre s)) 0 = at0 s (natPre s) := by
        unfold at0; rw [List.getD_eq_getElem?_getD, List.getElem?_drop, ← List.getD_eq_getElem?_getD]; rfl
      rw [this]; exact e

theorem natOk_of {n : Nat} {r : Str} (hn : n < 100000000) (hr : r = [] ∨ isDig (at0 r 0) = false) :
    natOk (decDigits n ++ r) = true ∧ natN (decDigits n ++ r) = n ∧ natRest (decDigits n ++ r) = r := by
  have hlen : (decDigits n).length ≤ 8 := (decDigits_len_le n 8 (by decide)).2 (by simpa using hn)
  have hpos := List.length_pos_iff.2 (decDigits_ne n)
  have htake : (decDigits n ++ r).take (decDigits n).length = decDigits n := List.take_left
  have hdrop : (decDigits n ++ r).drop (decDigits n).length = r := List.drop_left
  have hpre : natPre (decDigits n ++ r) = (decDigits n).length := by
    refine natPre_of (by rw [htake]; exact decDigits_dig n) (by simp) (by omega) ?_
    rcases hr with rfl | hr
    · left; simp
    · right; right
      have : at0 (decDigits n ++ r) (decDigits n).length = at0 r 0 := by
        unfold at0
        rw [List.getD_eq_getElem?_getD, List.getElem?_append_right (Nat.le_refl _), Nat.sub_self, ← List.getD_eq_getElem?_getD]
      rw [this]; exact hr
  have hz : (decDigits n).length = 1 ∨ at0 (decDigits n ++ r) 0 ≠ 48 := by
    by_cases h0 : 0 < n
    · right
      intro e
      have hh := decDigits_head n h0
      cases hd : decDigits n with
      | nil => exact decDigits_ne n hd
      | cons c t =>
        rw [hd] at e hh
        simp only [at0, List.cons_append, List.getD_cons_zero] at e
        subst e; exact hh rfl
    · left
      have : n = 0 := by omega
      subst this; simp [decDigits]
  obtain ⟨a, b, c⟩ := nat_good hpre (by omega) hlen hz
  exact ⟨a, by rw [b, htake, nval_decDigits], by rw [c, hdrop]⟩

/-- What nativeOf answers. -/
def natOf (a : Str) : Option (Int × Int) :=
  if natOk (unsig a) = false ∨ (a.head? = some 45 ∧ natN (unsig a) = 0) then none
  else if natRest (unsig a) = [] then some (if a.head? = some 45 then -(natN (unsig a) : Int) else natN (unsig a), 1)
  else if at0 (natRest (unsig a)) 0 ≠ 47 then none
  else if natOk (dropS (natRest (unsig a)) 1) = false ∨ natRest (dropS (natRest (unsig a)) 1) ≠ [] ∨ natN (dropS (natRest (unsig a)) 1) < 2 ∨ Nat.gcd (natN (unsig a)) (natN (dropS (natRest (unsig a)) 1)) ≠ 1 then none
  else some (if a.head? = some 45 then -(natN (unsig a) : Int) else natN (unsig a), natN (dropS (natRest (unsig a)) 1))

/-- A number's parts are short. -/
def Small8 (q : Rat) : Prop := q.num.natAbs < 100000000 ∧ q.den < 100000000

theorem unsig_cons {a : Str} (h : a.head? = some 45) : a = 45 :: unsig a := by
  cases a with
  | nil => cases h
  | cons c r => simp only [List.head?_cons, Option.some.injEq] at h; subst h; simp [unsig]
theorem unsig_same {a : Str} (h : a.head? ≠ some 45) : unsig a = a := by unfold unsig; rw [if_neg h]

theorem natOf_some {a : Str} {n d : Int} (h : natOf a = some (n, d)) : ∃ q : Rat, a = rstr q ∧ q.num = n ∧ (q.den : Int) = d ∧ Small8 q := by
  unfold natOf at h
  split at h
  · cases h
  · next hc1 =>
    simp only [not_or, Bool.not_eq_false, not_and] at hc1
    obtain ⟨ok1, hz⟩ := hc1
    obtain ⟨e1, b1, _⟩ := natOk_parts ok1
    -- the numeral of the numerator
    have hit : ∀ r, unsig a = decDigits (natN (unsig a)) ++ r → a = itoa (if a.head? = some 45 then -(natN (unsig a) : Int) else natN (unsig a)) ++ r := by
      intro r er
      by_cases hm : a.head? = some 45
      · rw [if_pos hm]
        have hz' := hz hm
        rw [itoa_neg (by omega), show (-(natN (unsig a) : Int)).natAbs = natN (unsig a) by omega, List.cons_append, ← er]
        exact unsig_cons hm
      · rw [if_neg hm, itoa_nonneg (by omega), Int.toNat_natCast, ← er]
        exact (unsig_same hm).symm
    have hab : ((if a.head? = some 45 then -(natN (unsig a) : Int) else natN (unsig a)) : Int).natAbs = natN (unsig a) := by split <;> omega
    split at h
    · next hr =>
      simp only [Option.some.injEq, Prod.mk.injEq] at h
      have ea := hit [] (by rw [← hr]; exact e1)
      rw [List.append_nil] at ea
      rw [h.1] at ea hab
      refine ⟨⟨n, 1, by decide, by simp⟩, ?_, rfl, by simpa using h.2, by rw [Small8]; exact ⟨by simp only; omega, by simp⟩⟩
      unfold rstr; rw [if_pos rfl]; exact ea
    · next hr =>
      split at h
      · cases h
      · next h47 =>
        split at h
        · cases h
        · next hc2 =>
          simp only [not_or, Bool.not_eq_false, Classical.not_not] at hc2
          obtain ⟨ok2, r2, d2, hg⟩ := hc2
          obtain ⟨e2, b2, _⟩ := natOk_parts ok2
          simp only [Option.some.injEq, Prod.mk.injEq] at h
          have h47' : at0 (natRest (unsig a)) 0 = 47 := Classical.not_not.1 h47
          have er : natRest (unsig a) = 47 :: decDigits (natN (dropS (natRest (unsig a)) 1)) := by
            rw [r2, List.append_nil] at e2
            rw [← e2]
            cases hh : natRest (unsig a) with
            | nil => exact absurd hh hr
            | cons c t => rw [hh] at h47'; simp only [at0, List.getD_cons_zero] at h47'; subst h47'; rfl
          have ea := hit _ e1
          rw [er] at ea
          rw [h.1] at ea hab
          refine ⟨⟨n, natN (dropS (natRest (unsig a)) 1), by omega, by rw [Nat.Coprime, hab]; exact hg⟩, ?_, rfl, h.2, ⟨by simp only; omega, by simp only; omega⟩⟩
          unfold rstr; simp only; rw [if_neg (by omega)]; exact ea

theorem head_itoa (z : Int) (r : Str) : (itoa z ++ r).head? = some 45 ↔ z < 0 := by
  by_cases h : z < 0
  · rw [itoa_neg h]; simp [h]
  · rw [itoa_nonneg (by omega), head?_app _ _ (decDigits_ne _)]
    simp only [h, iff_false]
    exact decDigits_head_ne_minus _
theorem unsig_itoa_app (z : Int) (r : Str) : unsig (itoa z ++ r) = decDigits z.natAbs ++ r := by
  by_cases h : z < 0
  · rw [itoa_neg h]; simp [unsig]
  · rw [unsig_same (fun e => h ((head_itoa z r).1 e)), itoa_nonneg (by omega), show z.toNat = z.natAbs by omega]
theorem sign_natAbs (z : Int) (r : Str) : (if (itoa z ++ r).head? = some 45 then -(z.natAbs : Int) else z.natAbs) = z := by
  by_cases h : z < 0
  · rw [if_pos ((head_itoa z r).2 h)]; omega
  · rw [if_neg (fun e => h ((head_itoa z r).1 e))]; omega

theorem natOf_small {q : Rat} (h : Small8 q) : natOf (rstr q) = some (q.num, (q.den : Int)) := by
  obtain ⟨h1, h2⟩ := h
  unfold rstr
  split
  · next hd =>
    have e := unsig_itoa_app q.num []
    have es := sign_natAbs q.num []
    have hh := head_itoa q.num []
    rw [List.append_nil, List.append_nil] at e
    rw [List.append_nil] at es hh
    obtain ⟨a, b, c⟩ := natOk_of (r := []) h1 (.inl rfl)
    rw [List.append_nil] at a b c
    unfold natOf
    rw [e, a, b, c, if_neg (by rintro (x | ⟨x, y⟩); · cases x
                               · have := hh.1 x; omega), if_pos rfl, es, hd]; rfl
  · next hd =>
    have e := unsig_itoa_app q.num (47 :: decDigits q.den)
    have es := sign_natAbs q.num (47 :: decDigits q.den)
    have hh := head_itoa q.num (47 :: decDigits q.den)
    obtain ⟨a, b, c⟩ := natOk_of (r := 47 :: decDigits q.den) h1 (.inr rfl)
    obtain ⟨a2, b2, c2⟩ := natOk_of (r := []) h2 (.inl rfl)
    rw [List.append_nil] at a2 b2 c2
    have ed : dropS (47 :: decDigits q.den) 1 = decDigits q.den := rfl
    have hnz := q.den_nz
    unfold natOf
    rw [e, a, b, c, if_neg (by rintro (x | ⟨x, y⟩); · cases x
                               · have := hh.1 x; omega), if_neg (by simp), if_neg (by simp [at0]), ed, a2, b2, c2, if_neg, es]
    rintro (x | x | x | x)
    · cases x
    · exact x rfl
    · omega
    · exact x q.reduced

theorem natOf_none_of {q : Rat} (h : ¬ Small8 q) : natOf (rstr q) = none := by
  cases hn : natOf (rstr q) with
  | none => rfl
  | some p =>
    obtain ⟨q', e, _, _, hs⟩ := natOf_some (n := p.1) (d := p.2) (by rw [hn])
    rw [← rstr_inj e] at hs
    exact absurd hs h

theorem small_rlim {q : Rat} (h : Small8 q) : rlim q = false := by
  unfold rlim
  rw [lim_small (x := q.num) (by have := h.1; omega), lim_small (x := (q.den : Int)) (by have := h.2; omega)]; rfl

theorem natOf_bad {a : Str} (h : rchk a ≠ 0) : natOf a = none := by
  cases hn : natOf a with
  | none => rfl
  | some p =>
    obtain ⟨q', e, _, _, hs⟩ := natOf_some (n := p.1) (d := p.2) (by rw [hn])
    rw [e, rchk_rstr, small_rlim hs] at h
    exact absurd rfl h

theorem natN_lt (s : Str) : natN s < 100000000 := by
  cases h : natOk s with
  | true => exact (natOk_parts h).2.1
  | false => unfold natN; rw [h]; simp
theorem natOk_ne {s : Str} (h : natOk s = true) : s ≠ [] := by
  intro e; subst e; simp [natOk, natPre] at h
theorem natRest_len (s : Str) : (natRest s).length ≤ s.length := by
  unfold natRest; split
  · simp
  · simp

end Kp
