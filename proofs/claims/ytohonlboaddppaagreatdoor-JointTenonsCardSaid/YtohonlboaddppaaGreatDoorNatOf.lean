/-
  Numbers with short parts, as the program reads them (nativeOf): just the numbers whose parts have at most 8 digits.; Fractions and their numerals.; The form of a number's string, as rational.cut asks it.; Square roots of integers, and the normal form of the root of an integer: plain mathematics.; Walks: the package rational.; Walks: rational.nativeOf at a string with a sign.
-/
import Derived.Test.YtohonlboaddppaaGreatDoorMA
import Derived.Lib.BitFns
import Derived.Test.YtohonlboaddppaaGreatDoorWB
namespace Kp
open Go.Lib (decDigits itoa nDigits)
theorem natPre_prefix (s : Str) : AllDig (s.take (natPre s)) ∧ natPre s ≤ s.length ∧ natPre s ≤ 9 ∧ (natPre s = s.length ∨ natPre s = 9 ∨ isDig (at0 s (natPre s)) = false) := by
  suffices h : ∃ k, AllDig (s.take k) ∧ k ≤ s.length ∧ k ≤ 9 ∧ (k = s.length ∨ k = 9 ∨ isDig (at0 s k) = false) by
    obtain ⟨k, h1, h2, h3, h4⟩ := h
    have := natPre_of h1 h2 h3 h4
    rw [this]; exact ⟨h1, h2, h3, h4⟩
  have step : ∀ n k, 9 - k = n → AllDig (s.take k) → k ≤ s.length → k ≤ 9 → ∃ k, AllDig (s.take k) ∧ k ≤ s.length ∧ k ≤ 9 ∧ (k = s.length ∨ k = 9 ∨ isDig (at0 s k) = false) := by
    intro n
    induction n with
    | zero => intro k hk h1 h2 h3; exact ⟨k, h1, h2, h3, .inr (.inl (by omega))⟩
    | succ n ih =>
      intro k hk h1 h2 h3
      by_cases hl : k = s.length
      · exact ⟨k, h1, h2, h3, .inl hl⟩
      · cases hd : isDig (at0 s k) with
        | false => exact ⟨k, h1, h2, h3, .inr (.inr hd)⟩
        | true => exact ih (k + 1) (by omega) (h1.snoc (by omega) hd) (by omega) (by omega)
  exact step 9 0 rfl (by simp [AllDig]) (by omega) (by omega)
theorem natOk_parts {s : Str} (h : natOk s = true) : s = decDigits (natN s) ++ natRest s ∧ natN s < 100000000 ∧ (natRest s = [] ∨ isDig (at0 (natRest s) 0) = false) := by
  obtain ⟨h1, h2, h3, h4⟩ := natPre_prefix s
  have hk := h
  unfold natOk at hk
  rw [decide_eq_true_eq] at hk
  obtain ⟨k0, k8, kz⟩ := hk
  have en : natN s = nval (s.take (natPre s)) := by unfold natN; rw [h]; rfl
  have er : natRest s = s.drop (natPre s) := by unfold natRest; rw [h]; rfl
  have hne : s.take (natPre s) ≠ [] := by
    intro e
    have := congrArg List.length e
    rw [List.length_take, List.length_nil] at this; omega
  have hd : decDigits (natN s) = s.take (natPre s) := by
    rw [en]
    refine decDigits_nval _ hne h1 (fun e => ?_)
    have h00 : at0 s 0 = 48 := by
      cases s with
      | nil => simp at h2; omega
      | cons c r =>
        rw [show natPre (c :: r) = (natPre (c :: r) - 1) + 1 by omega, List.take_succ_cons] at e
        simp only [List.head?_cons, Option.some.injEq] at e
        exact e
    have h1' : natPre s = 1 := by
      by_cases h' : 1 < natPre s
      · exact absurd ⟨h', h00⟩ kz
      · omega
    rw [h1']
    cases s with
    | nil => simp at h2; omega
    | cons c r => simp only [at0, List.getD_cons_zero] at h00; subst h00; rfl
  refine ⟨by rw [hd, er, List.take_append_drop], ?_, ?_⟩
  · have h8 : natN s < 10 ^ 8 := by
      rw [en]; exact Nat.lt_of_lt_of_le (nval_take_lt h1) (Nat.pow_le_pow_right (by decide) k8)
    simpa using h8
  · rw [er]
    rcases h4 with e | e | e
    · left; rw [e]; exact List.drop_length
    · omega
    · right
      have : at0 (s.drop (natPre s)) 0 = at0 s (natPre s) := by
        unfold at0; rw [List.getD_eq_getElem?_getD, List.getElem?_drop, ← List.getD_eq_getElem?_getD]; rfl
      rw [this]; exact e
theorem natOk_of {n : Nat} {r : Str} (hn : n < 100000000) (hr : r = [] ∨ isDig (at0 r 0) = false) :
    natOk (decDigits n ++ r) = true ∧ natN (decDigits n ++ r) = n ∧ natRest (decDigits n ++ r) = r := by
  have hlen : (decDigits n).length ≤ 8 := (decDigits_len_le n 8 (by decide)).2 (by simpa using hn)
  have hpos := List.length_pos_iff.2 (decDigits_ne n)
  have htake : (decDigits n ++ r).take (decDigits n).length = decDigits n := List.take_left
  have hdrop : (decDigits n ++ r).drop (decDigits n).length = r := List.drop_left
  have hpre : natPre (decDigits n ++ r) = (decDigits n).length := by
    refine natPre_of (by rw [htake]; exact decDigits_dig n) (by simp) (by omega) ?_
    rcases hr with rfl | hr
    · left; simp
    · right; right
      have : at0 (decDigits n ++ r) (decDigits n).length = at0 r 0 := by
        unfold at0
        rw [List.getD_eq_getElem?_getD, List.getElem?_append_right (Nat.le_refl _), Nat.sub_self, ← List.getD_eq_getElem?_getD]
      rw [this]; exact hr
  have hz : (decDigits n).length = 1 ∨ at0 (decDigits n ++ r) 0 ≠ 48 := by
    by_cases h0 : 0 < n
    · right
      intro e
      have hh := decDigits_head n h0
      cases hd : decDigits n with
      | nil => exact decDigits_ne n hd
      | cons c t =>
        rw [hd] at e hh
        simp only [at0, List.cons_append, List.getD_cons_zero] at e
        subst e; exact hh rfl
    · left
      have : n = 0 := by omega
      subst this; simp [decDigits]
  obtain ⟨a, b, c⟩ := nat_good hpre (by omega) hlen hz
  exact ⟨a, by rw [b, htake, nval_decDigits], by rw [c, hdrop]⟩
def natOf (a : Str) : Option (Int × Int) :=
  if natOk (unsig a) = false ∨ (a.head? = some 45 ∧ natN (unsig a) = 0) then none
  else if natRest (unsig a) = [] then some (if a.head? = some 45 then -(natN (unsig a) : Int) else natN (unsig a), 1)
  else if at0 (natRest (unsig a)) 0 ≠ 47 then none
  else if natOk (dropS (natRest (unsig a)) 1) = false ∨ natRest (dropS (natRest (unsig a)) 1) ≠ [] ∨ natN (dropS (natRest (unsig a)) 1) < 2 ∨ Nat.gcd (natN (unsig a)) (natN (dropS (natRest (unsig a)) 1)) ≠ 1 then none
  else some (if a.head? = some 45 then -(natN (unsig a) : Int) else natN (unsig a), natN (dropS (natRest (unsig a)) 1))
def Small8 (q : Rat) : Prop := q.num.natAbs < 100000000 ∧ q.den < 100000000
theorem unsig_cons {a : Str} (h : a.head? = some 45) : a = 45 :: unsig a := by
  cases a with
  | nil => cases h
  | cons c r => simp only [List.head?_cons, Option.some.injEq] at h; subst h; simp [unsig]
theorem unsig_same {a : Str} (h : a.head? ≠ some 45) : unsig a = a := by unfold unsig; rw [if_neg h]
theorem natOf_some {a : Str} {n d : Int} (h : natOf a = some (n, d)) : ∃ q : Rat, a = rstr q ∧ q.num = n ∧ (q.den : Int) = d ∧ Small8 q := by
  unfold natOf at h
  split at h
  · cases h
  · next hc1 =>
    simp only [not_or, Bool.not_eq_false, not_and] at hc1
    obtain ⟨ok1, hz⟩ := hc1
    obtain ⟨e1, b1, _⟩ := natOk_parts ok1
    have hit : ∀ r, unsig a = decDigits (natN (unsig a)) ++ r → a = itoa (if a.head? = some 45 then -(natN (unsig a) : Int) else natN (unsig a)) ++ r := by
      intro r er
      by_cases hm : a.head? = some 45
      · rw [if_pos hm]
        have hz' := hz hm
        rw [itoa_neg (by omega), show (-(natN (unsig a) : Int)).natAbs = natN (unsig a) by omega, List.cons_append, ← er]
        exact unsig_cons hm
      · rw [if_neg hm, itoa_nonneg (by omega), Int.toNat_natCast, ← er]
        exact (unsig_same hm).symm
    have hab : ((if a.head? = some 45 then -(natN (unsig a) : Int) else natN (unsig a)) : Int).natAbs = natN (unsig a) := by split <;> omega
    split at h
    · next hr =>
      simp only [Option.some.injEq, Prod.mk.injEq] at h
      have ea := hit [] (by rw [← hr]; exact e1)
      rw [List.append_nil] at ea
      rw [h.1] at ea hab
      refine ⟨⟨n, 1, by decide, by simp⟩, ?_, rfl, by simpa using h.2, by rw [Small8]; exact ⟨by simp only; omega, by simp⟩⟩
      unfold rstr; rw [if_pos rfl]; exact ea
    · next hr =>
      split at h
      · cases h
      · next h47 =>
        split at h
        · cases h
        · next hc2 =>
          simp only [not_or, Bool.not_eq_false, Classical.not_not] at hc2
          obtain ⟨ok2, r2, d2, hg⟩ := hc2
          obtain ⟨e2, b2, _⟩ := natOk_parts ok2
          simp only [Option.some.injEq, Prod.mk.injEq] at h
          have h47' : at0 (natRest (unsig a)) 0 = 47 := Classical.not_not.1 h47
          have er : natRest (unsig a) = 47 :: decDigits (natN (dropS (natRest (unsig a)) 1)) := by
            rw [r2, List.append_nil] at e2
            rw [← e2]
            cases hh : natRest (unsig a) with
            | nil => exact absurd hh hr
            | cons c t => rw [hh] at h47'; simp only [at0, List.getD_cons_zero] at h47'; subst h47'; rfl
          have ea := hit _ e1
          rw [er] at ea
          rw [h.1] at ea hab
          refine ⟨⟨n, natN (dropS (natRest (unsig a)) 1), by omega, by rw [Nat.Coprime, hab]; exact hg⟩, ?_, rfl, h.2, ⟨by simp only; omega, by simp only; omega⟩⟩
          unfold rstr; simp only; rw [if_neg (by omega)]; exact ea
theorem head_itoa (z : Int) (r : Str) : (itoa z ++ r).head? = some 45 ↔ z < 0 := by
  by_cases h : z < 0
  · rw [itoa_neg h]; simp [h]
  · rw [itoa_nonneg (by omega), head?_app _ _ (decDigits_ne _)]
    simp only [h, iff_false]
    exact decDigits_head_ne_minus _
theorem unsig_itoa_app (z : Int) (r : Str) : unsig (itoa z ++ r) = decDigits z.natAbs ++ r := by
  by_cases h : z < 0
  · rw [itoa_neg h]; simp [unsig]
  · rw [unsig_same (fun e => h ((head_itoa z r).1 e)), itoa_nonneg (by omega), show z.toNat = z.natAbs by omega]
theorem sign_natAbs (z : Int) (r : Str) : (if (itoa z ++ r).head? = some 45 then -(z.natAbs : Int) else z.natAbs) = z := by
  by_cases h : z < 0
  · rw [if_pos ((head_itoa z r).2 h)]; omega
  · rw [if_neg (fun e => h ((head_itoa z r).1 e))]; omega
theorem natOf_small {q : Rat} (h : Small8 q) : natOf (rstr q) = some (q.num, (q.den : Int)) := by
  obtain ⟨h1, h2⟩ := h
  unfold rstr
  split
  · next hd =>
    have e := unsig_itoa_app q.num []
    have es := sign_natAbs q.num []
    have hh := head_itoa q.num []
    rw [List.append_nil, List.append_nil] at e
    rw [List.append_nil] at es hh
    obtain ⟨a, b, c⟩ := natOk_of (r := []) h1 (.inl rfl)
    rw [List.append_nil] at a b c
    unfold natOf
    rw [e, a, b, c, if_neg (by rintro (x | ⟨x, y⟩); · cases x
                               · have := hh.1 x; omega), if_pos rfl, es, hd]; rfl
  · next hd =>
    have e := unsig_itoa_app q.num (47 :: decDigits q.den)
    have es := sign_natAbs q.num (47 :: decDigits q.den)
    have hh := head_itoa q.num (47 :: decDigits q.den)
    obtain ⟨a, b, c⟩ := natOk_of (r := 47 :: decDigits q.den) h1 (.inr rfl)
    obtain ⟨a2, b2, c2⟩ := natOk_of (r := []) h2 (.inl rfl)
    rw [List.append_nil] at a2 b2 c2
    have ed : dropS (47 :: decDigits q.den) 1 = decDigits q.den := rfl
    have hnz := q.den_nz
    unfold natOf
    rw [e, a, b, c, if_neg (by rintro (x | ⟨x, y⟩); · cases x
                               · have := hh.1 x; omega), if_neg (by simp), if_neg (by simp [at0]), ed, a2, b2, c2, if_neg, es]
    rintro (x | x | x | x)
    · cases x
    · exact x rfl
    · omega
    · exact x q.reduced
theorem natOf_none_of {q : Rat} (h : ¬ Small8 q) : natOf (rstr q) = none := by
  cases hn : natOf (rstr q) with
  | none => rfl
  | some p =>
    obtain ⟨q', e, _, _, hs⟩ := natOf_some (n := p.1) (d := p.2) (by rw [hn])
    rw [← rstr_inj e] at hs
    exact absurd hs h
theorem small_rlim {q : Rat} (h : Small8 q) : rlim q = false := by
  unfold rlim
  rw [lim_small (x := q.num) (by have := h.1; omega), lim_small (x := (q.den : Int)) (by have := h.2; omega)]; rfl
theorem natOf_bad {a : Str} (h : rchk a ≠ 0) : natOf a = none := by
  cases hn : natOf a with
  | none => rfl
  | some p =>
    obtain ⟨q', e, _, _, hs⟩ := natOf_some (n := p.1) (d := p.2) (by rw [hn])
    rw [e, rchk_rstr, small_rlim hs] at h
    exact absurd rfl h
theorem natN_lt (s : Str) : natN s < 100000000 := by
  cases h : natOk s with
  | true => exact (natOk_parts h).2.1
  | false => unfold natN; rw [h]; simp
theorem natOk_ne {s : Str} (h : natOk s = true) : s ≠ [] := by
  intro e; subst e; simp [natOk, natPre] at h
theorem natRest_len (s : Str) : (natRest s).length ≤ s.length := by
  unfold natRest; split
  · simp
  · simp
end Kp
namespace Kp
open Go.Lib (decDigits itoa nDigits)
theorem tdiv_bounds (n : Int) (g : Nat) {B : Int} (h : (n.natAbs : Int) ≤ B) : -B ≤ n.tdiv g ∧ n.tdiv g ≤ B := by
  have := tdiv_abs n g
  omega
theorem divInt_pos (n : Int) (k : Nat) (hk : 0 < k) : (Rat.divInt n k).num = n.tdiv (Nat.gcd n.natAbs k) ∧ ((Rat.divInt n k).den : Int) = (k : Int) / (Nat.gcd n.natAbs k : Int) := by
  have e : Rat.divInt n k = Rat.normalize n k (by omega) := by rw [Rat.normalize_eq_mkRat, Rat.divInt_ofNat]
  rw [e, Rat.normalize_eq]
  simp only
  have h1 : ((Nat.gcd n.natAbs k : Nat) : Int) ∣ n := by rw [← Int.dvd_natAbs]; exact Int.natCast_dvd_natCast.2 (Nat.gcd_dvd_left ..)
  refine ⟨?_, ?_⟩
  · rw [Int.tdiv_eq_ediv_of_dvd h1]
  · rw [Int.natCast_ediv]
theorem rstr_divInt (n : Int) (k : Nat) (hk : 0 < k) :
    rstr (Rat.divInt n k) = if (k : Int) / (Nat.gcd n.natAbs k : Int) = 1 then itoa (n.tdiv (Nat.gcd n.natAbs k)) else itoa (n.tdiv (Nat.gcd n.natAbs k)) ++ 47 :: itoa ((k : Int) / (Nat.gcd n.natAbs k : Int)) := by
  obtain ⟨h1, h2⟩ := divInt_pos n k hk
  unfold rstr
  rw [dec_eq_itoa, h1, h2]
  by_cases h : (Rat.divInt n k).den = 1
  · rw [if_pos h, if_pos (by omega)]
  · rw [if_neg h, if_neg (by omega)]
end Kp
namespace Kp
open Go.Lib (decDigits itoa nDigits)
def digN (s : Str) : Nat := if 1 < (s.takeWhile isDig).length ∧ at0 s 0 = 48 then 0 else (s.takeWhile isDig).length
theorem takeWhile_len_of {s : Str} {k : Nat} (h : AllDig (s.take k)) (hk : k ≤ s.length) (stop : k = s.length ∨ isDig (at0 s k) = false) : (s.takeWhile isDig).length = k := by
  by_cases hl : k = s.length
  · rw [hl, List.take_length] at h
    rw [takeWhile_all _ _ h, hl]
  · have hd := stop.resolve_left hl
    have hlt : k < s.length := by omega
    have e : s = s.take k ++ at0 s k :: s.drop (k + 1) := by
      rw [at0_get s k hlt, ← List.drop_eq_getElem_cons, List.take_append_drop]
    have := takeWhile_stop isDig (at0 s k) (s.drop (k + 1)) hd (s.take k) h
    rw [← e] at this
    rw [this, List.length_take]; omega
theorem takeWhile_len_le (s : Str) : (s.takeWhile isDig).length ≤ s.length := (List.takeWhile_sublist _).length_le
theorem takeWhile_full {s : Str} (h : (s.takeWhile isDig).length = s.length) : AllDig s := by
  have e : s.takeWhile isDig = s := (List.takeWhile_prefix _).eq_of_length h
  intro c hc
  have := List.all_takeWhile (p := isDig) (l := s)
  rw [List.all_eq_true, e] at this
  exact this c hc
theorem digN_good {s : Str} : (digN s ≠ 0 ∧ ¬ digN s < s.length) ↔ (s ≠ [] ∧ AllDig s ∧ (s.head? = some 48 → s = [48])) := by
  have hle := takeWhile_len_le s
  constructor
  · rintro ⟨h0, h1⟩
    unfold digN at h0 h1
    split at h0
    · exact absurd rfl h0
    · next hz =>
      rw [if_neg hz] at h1
      have hfull : (s.takeWhile isDig).length = s.length := by omega
      have hne : s ≠ [] := by intro e; subst e; simp at h0
      refine ⟨hne, takeWhile_full hfull, fun e => ?_⟩
      rw [head_at0 hne] at e
      have e48 := Option.some.inj e
      have h1' : s.length = 1 := by
        by_cases hc : 1 < s.length
        · exact absurd ⟨by omega, e48⟩ hz
        · have := List.length_pos_iff.2 hne; omega
      obtain ⟨c, rfl⟩ := List.length_eq_one_iff.1 h1'
      simp only [at0, List.getD_cons_zero] at e48; rw [e48]
  · rintro ⟨hne, hd, hz⟩
    have hl : (s.takeWhile isDig).length = s.length := by rw [takeWhile_all _ _ hd]
    have hpos := List.length_pos_iff.2 hne
    have e : digN s = s.length := by
      unfold digN
      rw [if_neg, hl]
      rintro ⟨a, b⟩
      rw [hl] at a
      have := hz (by rw [head_at0 hne, b])
      rw [this] at a; simp at a
    omega
theorem ichk_eleven (n : Str) : ichk n = 11 ↔ (digN (unsig n) = 0 ∨ digN (unsig n) < (unsig n).length ∨ (n.head? = some 45 ∧ unsig n = [48])) := by
  have hg := digN_good (s := unsig n)
  constructor
  · intro h
    by_cases h0 : digN (unsig n) = 0
    · exact .inl h0
    · by_cases h1 : digN (unsig n) < (unsig n).length
      · exact .inr (.inl h1)
      · obtain ⟨a, b, c⟩ := hg.1 ⟨h0, h1⟩
        right; right
        by_cases h48 : (unsig n).head? = some 48
        · have e := c h48
          refine ⟨?_, e⟩
          by_cases hm : n.head? = some 45
          · exact hm
          · rw [unsig_same hm] at e
            rw [e, ichk_48] at h; cases h
        · rw [head_at0 a] at h48
          rw [ichk_rest a (fun x => h48 (by rw [x])) b] at h
          split at h <;> cases h
  · intro h
    by_cases hA : unsig n = []
    · exact ichk_empty hA
    · by_cases hD : AllDig (unsig n)
      · by_cases hz : at0 (unsig n) 0 = 48 ∧ n ≠ [48]
        · exact ichk_zero hA hz.1 hz.2
        · exfalso
          have hgood : unsig n ≠ [] ∧ AllDig (unsig n) ∧ ((unsig n).head? = some 48 → unsig n = [48]) := by
            refine ⟨hA, hD, fun e => ?_⟩
            rw [head_at0 hA] at e
            have : n = [48] := Classical.byContradiction fun x => hz ⟨Option.some.inj e, x⟩
            rw [this]; rfl
          obtain ⟨a, b⟩ := hg.2 hgood
          rcases h with h | h | ⟨h, h2⟩
          · exact a h
          · exact b h
          · have : n = [48] := Classical.byContradiction fun x => hz ⟨by rw [h2]; rfl, x⟩
            rw [this] at h; simp at h
      · exact ichk_digits hD
theorem den_bad (d : Str) : (ichk d = 11 ∨ d.head? = some 45 ∨ d = [48] ∨ d = [49]) ↔ (digN d = 0 ∨ digN d < d.length ∨ d = [48] ∨ d = [49]) := by
  by_cases hm : d.head? = some 45
  · have hdig : digN d = 0 := by
      cases d with
      | nil => cases hm
      | cons c r =>
        simp only [List.head?_cons, Option.some.injEq] at hm
        subst hm
        have h45 : isDig 45 = false := by decide
        unfold digN
        rw [List.takeWhile_cons, h45]; simp
    simp [hm, hdig]
  · have := ichk_eleven d
    rw [unsig_same hm] at this
    rw [this]
    simp only [hm, false_and, or_false, false_or]
    constructor
    · rintro ((a | a) | a | a)
      · exact .inl a
      · exact .inr (.inl a)
      · exact .inr (.inr (.inl a))
      · exact .inr (.inr (.inr a))
    · rintro (a | a | a | a)
      · exact .inl (.inl a)
      · exact .inl (.inr a)
      · exact .inr (.inl a)
      · exact .inr (.inr a)
theorem rbad_iff (a : Str) : rbad a ↔ ((digN (unsig (numPart a)) = 0 ∨ digN (unsig (numPart a)) < (unsig (numPart a)).length ∨ ((numPart a).head? = some 45 ∧ unsig (numPart a) = [48])) ∨
    (hasSlash a = true ∧ (digN (denPart a) = 0 ∨ digN (denPart a) < (denPart a).length ∨ denPart a = [48] ∨ denPart a = [49]))) := by
  unfold rbad
  rw [ichk_eleven, den_bad]
theorem numPart_len (a : Str) : (numPart a).length ≤ a.length := (List.takeWhile_sublist _).length_le
theorem denPart_len (a : Str) : (denPart a).length ≤ a.length := by
  unfold denPart
  have h1 : (a.dropWhile (· ≠ 47)).length ≤ a.length := (List.dropWhile_sublist _).length_le
  rw [List.length_tail]
  have h2 : (a.dropWhile (fun x => decide (x ≠ 47))).length ≤ a.length := h1
  omega
theorem rstr_divInt_f (n : Int) (k : Nat) (hk : 0 < k) :
    rstr (Rat.divInt n k) = if (k : Int).fdiv (Nat.gcd n.natAbs k : Int) = 1 then itoa (n.fdiv (Nat.gcd n.natAbs k : Int)) else itoa (n.fdiv (Nat.gcd n.natAbs k : Int)) ++ 47 :: itoa ((k : Int).fdiv (Nat.gcd n.natAbs k : Int)) := by
  rw [rstr_divInt n k hk, Int.fdiv_eq_ediv_of_nonneg _ (by omega), Int.fdiv_eq_ediv_of_nonneg _ (by omega)]
  have h1 : ((Nat.gcd n.natAbs k : Nat) : Int) ∣ n := by rw [← Int.dvd_natAbs]; exact Int.natCast_dvd_natCast.2 (Nat.gcd_dvd_left ..)
  rw [Int.tdiv_eq_ediv_of_dvd h1]
theorem dec_len_mono {a b : Nat} (h : a ≤ b) : (decDigits a).length ≤ (decDigits b).length := by
  have p := List.length_pos_iff.2 (decDigits_ne b)
  have := (decDigits_len_le b _ p).1 (Nat.le_refl _)
  exact (decDigits_len_le a _ p).2 (by omega)
theorem itoa_len_mono {a b : Nat} {m : Nat} (h : a ≤ b) (hb : (itoa (b : Int)).length ≤ m) : (itoa (a : Int)).length ≤ m := by
  rw [← dec_eq_itoa] at *; exact Nat.le_trans (dec_len_mono h) hb
theorem itoa_len_eq (z : Int) : (itoa z).length = (decDigits z.natAbs).length + (if z < 0 then 1 else 0) := by
  by_cases h : z < 0
  · rw [itoa_neg h, if_pos h, List.length_cons]
  · rw [itoa_nonneg (by omega), if_neg h, show z.toNat = z.natAbs by omega]; rfl
theorem itoa_fdiv_len (n : Int) (g : Nat) (hn : (itoa n).length ≤ 18) : (itoa (n.fdiv g)).length ≤ 1000 := by
  have h := short_abs hn
  have hb : (n.fdiv g).natAbs ≤ 1000000000000000000 := by
    rw [Int.fdiv_eq_ediv_of_nonneg _ (by omega)]
    by_cases hg : g = 0
    · subst hg; simp
    · have h1 : n / (g : Int) ≤ n.natAbs := Int.le_trans (Int.ediv_le_ediv (by omega) (show n ≤ (n.natAbs : Int) by omega)) (Int.ediv_le_self _ (by omega))
      have h2 : -(n.natAbs : Int) ≤ n / (g : Int) := by
        rw [Int.le_ediv_iff_mul_le (by omega)]
        have : (n.natAbs : Int) * 1 ≤ n.natAbs * g := Int.mul_le_mul_of_nonneg_left (by omega) (by omega)
        rw [Int.neg_mul]; omega
      omega
  have h19 : (decDigits (n.fdiv g).natAbs).length ≤ 19 := (decDigits_len_le _ 19 (by decide)).2 (by
    have : (10 : Nat) ^ 19 = 10000000000000000000 := by decide
    omega)
  rw [itoa_len_eq]; split <;> omega
end Kp
namespace Kp
open Go.Lib (decDigits itoa nDigits)
def IsRoot (n r : Nat) : Prop := r * r ≤ n ∧ n < (r + 1) * (r + 1)
theorem IsRoot.unique {n r s : Nat} (h : IsRoot n r) (k : IsRoot n s) : r = s := by
  obtain ⟨h1, h2⟩ := h
  obtain ⟨k1, k2⟩ := k
  by_cases a : r < s
  · have : (r + 1) * (r + 1) ≤ s * s := Nat.mul_le_mul a a
    omega
  · by_cases b : s < r
    · have : (s + 1) * (s + 1) ≤ r * r := Nat.mul_le_mul b b
      omega
    · omega
def isqrt (n : Nat) : Nat := if h : n = 0 then 0 else if (2 * isqrt (n / 4) + 1) * (2 * isqrt (n / 4) + 1) ≤ n then 2 * isqrt (n / 4) + 1 else 2 * isqrt (n / 4)
termination_by n
decreasing_by all_goals omega
theorem isqrt_spec (n : Nat) : IsRoot n (isqrt n) := by
  induction n using Nat.strongRecOn with
  | _ n ih =>
    rw [isqrt]
    split
    · next h => subst h; exact ⟨Nat.le_refl _, by decide⟩
    · next h =>
      obtain ⟨h1, h2⟩ := ih (n / 4) (by omega)
      generalize isqrt (n / 4) = s at *
      have e1 : 2 * s * (2 * s) = 4 * (s * s) := by grind
      have e2 : (2 * s + 1 + 1) * (2 * s + 1 + 1) = 4 * ((s + 1) * (s + 1)) := by grind
      split
      · next hc => exact ⟨hc, by omega⟩
      · next hc => exact ⟨by omega, by omega⟩
theorem isqrt_of {n r : Nat} (h : IsRoot n r) : isqrt n = r := (isqrt_spec n).unique h
theorem isqrt_le (n : Nat) : isqrt n ≤ n := by
  have h := (isqrt_spec n).1
  by_cases h0 : isqrt n = 0
  · omega
  · have : isqrt n * 1 ≤ isqrt n * isqrt n := Nat.mul_le_mul_left _ (by omega)
    omega
theorem isqrt_small {n : Nat} (h : n < 2) : isqrt n = n := by
  have : n = 0 ∨ n = 1 := by omega
  rcases this with rfl | rfl
  · exact isqrt_of ⟨by decide, by decide⟩
  · exact isqrt_of ⟨by decide, by decide⟩
theorem lt_pow_bitLenAux : ∀ (f x : Nat), x < 2 ^ f → x < 2 ^ Go.Lib.bitLenAux f x
  | 0, x, h => h
  | f + 1, x, h => by
    simp only [Go.Lib.bitLenAux]
    split
    · next h0 => subst h0; decide
    · have := lt_pow_bitLenAux f (x / 2) (by rw [Nat.pow_succ] at h; omega)
      rw [Nat.add_comm, Nat.pow_succ]; omega
theorem bitLenAux_le : ∀ (f k x : Nat), x < 2 ^ k → Go.Lib.bitLenAux f x ≤ k
  | 0, _, _, _ => Nat.zero_le _
  | f + 1, k, x, h => by
    simp only [Go.Lib.bitLenAux]
    split
    · omega
    · cases k with
      | zero => simp at h; omega
      | succ k =>
        have := bitLenAux_le f k (x / 2) (by rw [Nat.pow_succ] at h; omega)
        omega
theorem lt_pow_bitLen {x : Nat} (h : x < 18446744073709551616) : x < 2 ^ Go.Lib.bitLen x := lt_pow_bitLenAux 64 x h
theorem bitLen_le {x k : Nat} (h : x < 2 ^ k) : Go.Lib.bitLen x ≤ k := bitLenAux_le 64 k x h
theorem start_ge {n : Nat} (h : n < 18446744073709551616) : n < (2 ^ ((Go.Lib.bitLen n + 1) / 2) + 1) * (2 ^ ((Go.Lib.bitLen n + 1) / 2) + 1) := by
  have h1 := lt_pow_bitLen h
  have h2 : 2 ^ Go.Lib.bitLen n ≤ 2 ^ ((Go.Lib.bitLen n + 1) / 2 + (Go.Lib.bitLen n + 1) / 2) := Nat.pow_le_pow_right (by decide) (by omega)
  rw [Nat.pow_add] at h2
  generalize 2 ^ ((Go.Lib.bitLen n + 1) / 2) = r at *
  have : (r + 1) * (r + 1) = r * r + 2 * r + 1 := by grind
  omega
theorem newton_ge {n r : Nat} (hr : 0 < r) : n < ((r + n / r) / 2 + 1) * ((r + n / r) / 2 + 1) := by
  have h1 : n < r * (n / r + 1) := Nat.lt_mul_div_succ n hr
  generalize n / r = q at *
  generalize hs : (r + q) / 2 = s at *
  have h2 : r + q + 1 ≤ 2 * (s + 1) := by omega
  have h3 : 4 * (r * (q + 1)) ≤ (r + (q + 1)) * (r + (q + 1)) := by
    rcases Nat.le_total r (q + 1) with h | h
    · obtain ⟨d, hd⟩ := Nat.exists_eq_add_of_le h
      rw [hd]
      have : (r + (r + d)) * (r + (r + d)) = 4 * (r * (r + d)) + d * d := by grind
      omega
    · obtain ⟨d, hd⟩ := Nat.exists_eq_add_of_le h
      rw [hd]
      have : (q + 1 + d + (q + 1)) * (q + 1 + d + (q + 1)) = 4 * ((q + 1 + d) * (q + 1)) + d * d := by grind
      omega
  have h4 : (r + (q + 1)) * (r + (q + 1)) ≤ (2 * (s + 1)) * (2 * (s + 1)) := Nat.mul_le_mul (by omega) (by omega)
  have h5 : (2 * (s + 1)) * (2 * (s + 1)) = 4 * ((s + 1) * (s + 1)) := by grind
  omega
theorem newton_done {n r : Nat} (hr : 0 < r) (hge : n < (r + 1) * (r + 1)) (h : r ≤ (r + n / r) / 2) : IsRoot n r := by
  refine ⟨?_, hge⟩
  have h1 : r ≤ n / r := by omega
  have := (Nat.le_div_iff_mul_le hr).1 h1
  exact this
def stripP (p : Nat) (c m : Nat) : Nat × Nat := if _h : 2 ≤ p ∧ 0 < m ∧ m % (p * p) = 0 then stripP p (c * p) (m / (p * p)) else (c, m)
termination_by m
decreasing_by
  obtain ⟨h1, h2, _⟩ := _h
  exact Nat.div_lt_self h2 (by have : 2 * 2 ≤ p * p := Nat.mul_le_mul h1 h1; omega)
theorem stripP_yes {p c m : Nat} (hp : 2 ≤ p) (hm : 0 < m) (h : m % (p * p) = 0) : stripP p c m = stripP p (c * p) (m / (p * p)) := by
  rw [stripP, dif_pos ⟨hp, hm, h⟩]
theorem stripP_no {p c m : Nat} (h : m % (p * p) ≠ 0) : stripP p c m = (c, m) := by
  rw [stripP, dif_neg (fun x => h x.2.2)]
def primesL : List Nat := [2, 3, 5, 7, 11, 13, 17, 19, 23, 29, 31, 37, 41, 43, 47, 53, 59, 61, 67, 71, 73, 79, 83, 89, 97]
def stripAll : List Nat → Nat × Nat → Nat × Nat
  | [], x => x
  | p :: r, x => stripAll r (stripP p x.1 x.2)
theorem stripAll_append (l m : List Nat) : ∀ x, stripAll (l ++ m) x = stripAll m (stripAll l x) := by
  induction l with
  | nil => intro x; rfl
  | cons p r ih => intro x; exact ih _
def normM (m : Nat) : Nat × Nat :=
  if isqrt (stripAll primesL (1, m)).2 * isqrt (stripAll primesL (1, m)).2 = (stripAll primesL (1, m)).2 then ((stripAll primesL (1, m)).1 * isqrt (stripAll primesL (1, m)).2, 1)
  else stripAll primesL (1, m)
theorem sq_of_inv {c l m : Nat} (h : c * c * l = m) (hl : 0 < l) : c * c ≤ m := by
  have : c * c * 1 ≤ c * c * l := Nat.mul_le_mul_left _ hl
  omega
structure StripInv (n c l : Nat) : Prop where
  pos : 0 < l
  cpos : 0 < c
  eq : c * c * l = n
theorem StripInv.bounds {n c l : Nat} (h : StripInv n c l) : l ≤ n ∧ c ≤ n := by
  have h1 := h.eq
  have h2 := h.pos
  have h3 := h.cpos
  have h4 : 1 * l ≤ c * c * l := Nat.mul_le_mul_right _ (Nat.mul_pos h3 h3)
  have h5 : c * 1 ≤ c * c := Nat.mul_le_mul_left _ h3
  have h6 : c * c * 1 ≤ c * c * l := Nat.mul_le_mul_left _ h2
  omega
theorem StripInv.next {n c l p : Nat} (h : StripInv n c l) (hp : 2 ≤ p) (hd : l % (p * p) = 0) : StripInv n (c * p) (l / (p * p)) := by
  have hdvd := Nat.div_mul_cancel (Nat.dvd_of_mod_eq_zero hd)
  have h2 := h.pos
  refine ⟨?_, Nat.mul_pos h.cpos (by omega), ?_⟩
  · rcases Nat.eq_zero_or_pos (l / (p * p)) with h0 | h0
    · rw [h0, Nat.zero_mul] at hdvd; omega
    · exact h0
  · rw [← h.eq]
    conv => rhs; rw [← hdvd]
    grind
theorem StripInv.small {n c l : Nat} (h : StripInv n c l) (hn : n < 100000000000000000) : c < 1000000000 := by
  have h1 := sq_of_inv h.eq h.pos
  rcases Nat.lt_or_ge c 1000000000 with a | a
  · exact a
  · have : 1000000000 * 1000000000 ≤ c * c := Nat.mul_le_mul a a
    omega
theorem stripAll_take_succ (k : Nat) (h : k < primesL.length) (x : Nat × Nat) : stripAll (primesL.take (k + 1)) x = stripP (primesL.getD k 0) (stripAll (primesL.take k) x).1 (stripAll (primesL.take k) x).2 := by
  rw [List.take_succ_eq_append_getElem h, stripAll_append, List.getD_eq_getElem?_getD, List.getElem?_eq_getElem h]; rfl
end Kp
namespace Go.Proofs.YtohonlboaddppaaGreatDoor
open Go.RowKit Kp
def natOfV (a : Str) : Value := match natOf a with
  | some (n, d) => .tuple #[.agg #[.int .i64 n, .int .i64 d], .bool true]
  | none => .tuple #[.agg #[.int .i64 0, .int .i64 0], .bool false]
theorem natOfV_none {a : Str} (h : natOf a = none) : natOfV a = .tuple #[.agg #[.int .i64 0, .int .i64 0], .bool false] := by unfold natOfV; rw [h]
theorem natOfV_some {a : Str} {n d : Int} (h : natOf a = some (n, d)) : natOfV a = .tuple #[.agg #[.int .i64 n, .int .i64 d], .bool true] := by unfold natOfV; rw [h]
theorem natOf_ways (a own : Str) (neg : Bool) (hown : own = unsig a) (hneg : neg = decide (a.head? = some 45)) :
    (natOfV a = .tuple #[.agg #[.int .i64 0, .int .i64 0], .bool false] ∧
      (natOk own = false ∨
       (natOk own = true ∧ neg = true ∧ ((natN own : Int) == 0) = true) ∨
       (natOk own = true ∧ (neg = false ∨ ((natN own : Int) == 0) = false) ∧ (natRest own == []) = false ∧ 0 < (natRest own).length ∧
          (((((at0 (natRest own) 0).toNat : Int) == 47) = false) ∨
           ((((at0 (natRest own) 0).toNat : Int) == 47) = true ∧
             (natOk (dropS (natRest own) 1) = false ∨
              (natOk (dropS (natRest own) 1) = true ∧ (natRest (dropS (natRest own) 1) == []) = false) ∨
              (natOk (dropS (natRest own) 1) = true ∧ natRest (dropS (natRest own) 1) = [] ∧ natN (dropS (natRest own) 1) < 2) ∨
              (natOk (dropS (natRest own) 1) = true ∧ natRest (dropS (natRest own) 1) = [] ∧ 2 ≤ natN (dropS (natRest own) 1) ∧ ((Nat.gcd (natN own) (natN (dropS (natRest own) 1)) : Int) == 1) = false))))))) ∨
    (natOk own = true ∧ (neg = false ∨ ((natN own : Int) == 0) = false) ∧
      ((natRest own = [] ∧ natOfV a = .tuple #[.agg #[.int .i64 (if neg then -(natN own : Int) else natN own), .int .i64 1], .bool true]) ∨
       ((natRest own == []) = false ∧ 0 < (natRest own).length ∧ ((((at0 (natRest own) 0).toNat : Int) == 47) = true) ∧ natOk (dropS (natRest own) 1) = true ∧ natRest (dropS (natRest own) 1) = [] ∧ 2 ≤ natN (dropS (natRest own) 1) ∧
          ((Nat.gcd (natN own) (natN (dropS (natRest own) 1)) : Int) == 1) = true ∧ natOfV a = .tuple #[.agg #[.int .i64 (if neg then -(natN own : Int) else natN own), .int .i64 (natN (dropS (natRest own) 1))], .bool true]))) := by
  have h47 : ∀ c : UInt8, ((c.toNat : Int) == 47) = decide (c = 47) := by
    intro c
    by_cases h : c = 47
    · subst h; rfl
    · have : c.toNat ≠ 47 := fun e => h (UInt8.toNat_inj.1 e)
      simp [h]; omega
  have e1 : ∀ n : Nat, ((n : Int) == 1) = decide (n = 1) := by intro n; by_cases h : n = 1 <;> simp [h]; omega
  have e0 : ∀ n : Nat, ((n : Int) == 0) = decide (n = 0) := by intro n; by_cases h : n = 0 <;> simp [h]
  have hV : ∀ {r}, natOf a = r → natOfV a = (match r with
      | some (n, d) => .tuple #[.agg #[.int .i64 n, .int .i64 d], .bool true]
      | none => .tuple #[.agg #[.int .i64 0, .int .i64 0], .bool false]) := by intro r h; unfold natOfV; rw [h]
  have hn2 : (a.head? = some 45) = (neg = true) := by rw [hneg]; simp
  unfold natOf at hV
  rw [← hown] at hV
  simp only [hn2] at hV
  simp only [h47, e1, e0]
  cases hA : natOk own with
  | false => exact .inl ⟨hV (r := none) (by rw [if_pos (.inl hA)]), .inl rfl⟩
  | true =>
    by_cases hB : neg = true ∧ natN own = 0
    · exact .inl ⟨hV (r := none) (by rw [if_pos (.inr hB)]), .inr (.inl ⟨rfl, hB.1, by simp [hB.2]⟩)⟩
    · have hB' : neg = false ∨ decide (natN own = 0) = false := by
        cases neg with
        | false => exact .inl rfl
        | true => exact .inr (by simpa using hB)
      have n1 : ¬ (natOk own = false ∨ (neg = true ∧ natN own = 0)) := by rw [hA]; simpa using hB
      rw [if_neg n1] at hV
      by_cases hC : natRest own = []
      · rw [if_pos hC] at hV
        exact .inr ⟨rfl, hB', .inl ⟨hC, hV rfl⟩⟩
      · rw [if_neg hC] at hV
        have hC1 : (natRest own == []) = false := by simpa using hC
        have hC2 : 0 < (natRest own).length := List.length_pos_iff.2 hC
        by_cases hD : at0 (natRest own) 0 = 47
        · rw [if_neg (fun x => x hD)] at hV
          cases hE : natOk (dropS (natRest own) 1) with
          | false => exact .inl ⟨hV (r := none) (by rw [if_pos (.inl hE)]), .inr (.inr ⟨rfl, hB', hC1, hC2, .inr ⟨by simpa using hD, .inl rfl⟩⟩)⟩
          | true =>
            by_cases hF : natRest (dropS (natRest own) 1) = []
            · by_cases hG : natN (dropS (natRest own) 1) < 2
              · exact .inl ⟨hV (r := none) (by rw [if_pos (.inr (.inr (.inl hG)))]), .inr (.inr ⟨rfl, hB', hC1, hC2, .inr ⟨by simpa using hD, .inr (.inr (.inl ⟨rfl, hF, hG⟩))⟩⟩)⟩
              · by_cases hH : Nat.gcd (natN own) (natN (dropS (natRest own) 1)) = 1
                · rw [if_neg (by rw [hE]; rintro (x | x | x | x); · cases x
                                 · exact x hF
                                 · exact hG x
                                 · exact x hH)] at hV
                  exact .inr ⟨rfl, hB', .inr ⟨hC1, hC2, by simpa using hD, rfl, hF, by omega, by simpa using hH, hV rfl⟩⟩
                · exact .inl ⟨hV (r := none) (by rw [if_pos (.inr (.inr (.inr hH)))]), .inr (.inr ⟨rfl, hB', hC1, hC2, .inr ⟨by simpa using hD, .inr (.inr (.inr ⟨rfl, hF, by omega, by simpa using hH⟩))⟩⟩)⟩
            · exact .inl ⟨hV (r := none) (by rw [if_pos (.inr (.inl hF))]), .inr (.inr ⟨rfl, hB', hC1, hC2, .inr ⟨by simpa using hD, .inr (.inl ⟨rfl, by simpa using hF⟩)⟩⟩)⟩
        · rw [if_pos hD] at hV
          exact .inl ⟨hV (r := none) rfl, .inr (.inr ⟨rfl, hB', hC1, hC2, .inl (by simpa using hD)⟩)⟩
theorem ne45 {c : UInt8} (h : c ≠ 45) : ((c.toNat : Int) == 45) = false := by
  have h2 : c.toNat ≠ 45 := fun e => h (UInt8.toNat_inj.1 e)
  simp; omega
set_option maxRecDepth 100000 in
set_option maxHeartbeats 2000000 in
theorem rational_nativeOf_plus (a : Str) (ha : a.length ≤ 1000000000) (hm : a.head? ≠ some 45) (w : World) :
    Calls Tryz.prog 24 #[.string ⟨a.toArray⟩] w fun e w' => e = .returned (natOfV a) ∧ Q w w' := by
  have hne : a ≠ [] → (a == []) = false ∧ 0 < a.length ∧ ((((at0 a 0).toNat : Int) == 45) = false) := by
    intro h
    refine ⟨by simpa using h, List.length_pos_iff.2 h, ne45 (fun e => hm ?_)⟩
    rw [head_at0 h, e]
  have hl1 := natRest_len a
  have hl2 := dropS_len (natRest a) 1
  have hb1 := natN_lt a
  have hb2 := natN_lt (dropS (natRest a) 1)
  rcases natOf_ways a a false (unsig_same hm).symm (by simp [hm]) with ⟨HV, hw | ⟨_, h, _⟩ | ⟨hw, _, hr, hr2, hx⟩⟩ | ⟨hw, _, hx⟩
  · have HW := Lib.hid HV
    clear HV
    by_cases hn : a = []
    · subst hn
      clear hne hm
      go_enter Tryz.func24, Tryz.ntmps24
      go_wp2_with (go_at_call 48; refine (rational_nativeInt [] _ (by decide)).mono ?_; rintro e w1 ⟨rfl, n1, rfl⟩)
      exact bodyPost_ret (v := .tuple #[.agg #[.int .i64 0, .int .i64 0], .bool false]) (by simp [results, Tryz.results24, go_sem]) rfl ⟨by rw [HW.out], bt⟩
    · obtain ⟨h, h2, h3⟩ := hne hn
      clear hne hn hm
      go_enter Tryz.func24, Tryz.ntmps24
      go_wp2_with (go_at_call 48; refine (rational_nativeInt _ _ (by omega)).mono ?_; rintro e w1 ⟨rfl, n1, rfl⟩)
      exact bodyPost_ret (v := .tuple #[.agg #[.int .i64 0, .int .i64 0], .bool false]) (by simp [results, Tryz.results24, go_sem]) rfl ⟨by rw [HW.out], bt⟩
  · cases h
  · have HW := Lib.hid HV
    obtain ⟨h, h2, h3⟩ := hne (natOk_ne hw)
    clear HV hne hm
    have h' := bne_of_f h
    have hr' := bne_of_f hr
    rcases hx with hx | ⟨hx, hy | ⟨hy, hz⟩ | ⟨hy, hz, hu⟩ | ⟨hy, hz, hu, hv⟩⟩
    all_goals
      first | have hx' := bne_of_f hx | have hx' := bne_of_t hx
      first | have hz' := bne_of_f hz | skip
      first | have hv' := bne_of_f hv | skip
      go_enter Tryz.func24, Tryz.ntmps24
      go_wp2_with (first | (go_at_call 48; refine (rational_nativeInt _ _ (by omega)).mono ?_; rintro e w1 ⟨rfl, n1, rfl⟩) | (go_at_call 49; refine (rational_gcd _ _ _ (by omega) (by omega)).mono ?_; rintro e w1 ⟨rfl, n1, rfl⟩))
      exact bodyPost_ret (v := .tuple #[.agg #[.int .i64 0, .int .i64 0], .bool false]) (by simp [results, Tryz.results24, go_sem]) rfl ⟨by rw [HW.out], bt⟩
  · obtain ⟨h, h2, h3⟩ := hne (natOk_ne hw)
    clear hne hm
    have h' := bne_of_f h
    rcases hx with ⟨hx, HV⟩ | ⟨hr, hr2, hx, hy, hz, hu, hv, HV⟩
    all_goals
      first | (have hx' := bne_of_t hx; have hv' := bne_of_t hv; have hr' := bne_of_f hr) | skip
      have HW := Lib.hid HV
      clear HV
      go_enter Tryz.func24, Tryz.ntmps24
      go_wp2_with (first | (go_at_call 48; refine (rational_nativeInt _ _ (by omega)).mono ?_; rintro e w1 ⟨rfl, n1, rfl⟩) | (go_at_call 49; refine (rational_gcd _ _ _ (by omega) (by omega)).mono ?_; rintro e w1 ⟨rfl, n1, rfl⟩))
      first
        | exact bodyPost_ret (v := .tuple #[.agg #[.int .i64 (natN a), .int .i64 1], .bool true]) (by simp [results, Tryz.results24, go_sem]) rfl ⟨by rw [HW.out]; rfl, bt⟩
        | exact bodyPost_ret (v := .tuple #[.agg #[.int .i64 (natN a), .int .i64 (natN (dropS (natRest a) 1))], .bool true]) (by simp [results, Tryz.results24, go_sem]) rfl ⟨by rw [HW.out]; rfl, bt⟩
end Go.Proofs.YtohonlboaddppaaGreatDoor
namespace Go.Proofs.YtohonlboaddppaaGreatDoor
open Go.RowKit Kp
set_option maxRecDepth 100000 in
set_option maxHeartbeats 2000000 in
theorem rational_nativeOf_minus (a : Str) (ha : a.length ≤ 1000000000) (hm : a.head? = some 45) (w : World) :
    Calls Tryz.prog 24 #[.string ⟨a.toArray⟩] w fun e w' => e = .returned (natOfV a) ∧ Q w w' := by
  have hne : a ≠ [] := by intro e; rw [e] at hm; cases hm
  have h : (a == []) = false := by simpa using hne
  have h' := bne_of_f h
  have h2 : 0 < a.length := List.length_pos_iff.2 hne
  have h3 : ((((at0 a 0).toNat : Int) == 45) = true) := by
    rw [head_at0 hne] at hm; rw [Option.some.inj hm]; rfl
  have hown : dropS a 1 = unsig a := by rw [unsig_cons hm]; rfl
  have hlo := dropS_len a 1
  have hl1 := natRest_len (dropS a 1)
  have hl2 := dropS_len (natRest (dropS a 1)) 1
  have hb1 := natN_lt (dropS a 1)
  have hb2 := natN_lt (dropS (natRest (dropS a 1)) 1)
  have hlt : (dropS a 1).length < a.length := by omega
  rcases natOf_ways a (dropS a 1) true hown (by simp [hm]) with ⟨HV, hw | ⟨hw, _, hz⟩ | ⟨hw, hn, hr, hr2, hx⟩⟩ | ⟨hw, hn, hx⟩
  · have HW := Lib.hid HV
    clear HV hne hm hown
    go_enter Tryz.func24, Tryz.ntmps24
    go_wp2_with (go_at_call 48; refine (rational_nativeInt _ _ (by omega)).mono ?_; rintro e w1 ⟨rfl, n1, rfl⟩)
    exact bodyPost_ret (v := .tuple #[.agg #[.int .i64 0, .int .i64 0], .bool false]) (by simp [results, Tryz.results24, go_sem]) rfl ⟨by rw [HW.out], bt⟩
  · have HW := Lib.hid HV
    clear HV hne hm hown
    go_enter Tryz.func24, Tryz.ntmps24
    go_wp2_with (go_at_call 48; refine (rational_nativeInt _ _ (by omega)).mono ?_; rintro e w1 ⟨rfl, n1, rfl⟩)
    exact bodyPost_ret (v := .tuple #[.agg #[.int .i64 0, .int .i64 0], .bool false]) (by simp [results, Tryz.results24, go_sem]) rfl ⟨by rw [HW.out], bt⟩
  · have HW := Lib.hid HV
    have hn : ((natN (dropS a 1) : Int) == 0) = false := hn.elim (fun e => by cases e) id
    clear HV hne hm hown
    have hr' := bne_of_f hr
    rcases hx with hx | ⟨hx, hy | ⟨hy, hz⟩ | ⟨hy, hz, hu⟩ | ⟨hy, hz, hu, hv⟩⟩
    all_goals
      first | have hx' := bne_of_f hx | have hx' := bne_of_t hx
      first | have hz' := bne_of_f hz | skip
      first | have hv' := bne_of_f hv | skip
      go_enter Tryz.func24, Tryz.ntmps24
      go_wp2_with (first | (go_at_call 48; refine (rational_nativeInt _ _ (by omega)).mono ?_; rintro e w1 ⟨rfl, n1, rfl⟩) | (go_at_call 49; refine (rational_gcd _ _ _ (by omega) (by omega)).mono ?_; rintro e w1 ⟨rfl, n1, rfl⟩))
      exact bodyPost_ret (v := .tuple #[.agg #[.int .i64 0, .int .i64 0], .bool false]) (by simp [results, Tryz.results24, go_sem]) rfl ⟨by rw [HW.out], bt⟩
  · have hn : ((natN (dropS a 1) : Int) == 0) = false := hn.elim (fun e => by cases e) id
    clear hne hm hown
    rcases hx with ⟨hx, HV⟩ | ⟨hr, hr2, hx, hy, hz, hu, hv, HV⟩
    all_goals
      first | (have hx' := bne_of_t hx; have hv' := bne_of_t hv; have hr' := bne_of_f hr) | skip
      have HW := Lib.hid HV
      clear HV
      go_enter Tryz.func24, Tryz.ntmps24
      go_wp2_with (first | (go_at_call 48; refine (rational_nativeInt _ _ (by omega)).mono ?_; rintro e w1 ⟨rfl, n1, rfl⟩) | (go_at_call 49; refine (rational_gcd _ _ _ (by omega) (by omega)).mono ?_; rintro e w1 ⟨rfl, n1, rfl⟩))
      first
        | exact bodyPost_ret (v := .tuple #[.agg #[.int .i64 (-(natN (dropS a 1) : Int)), .int .i64 1], .bool true]) (by simp [results, Tryz.results24, go_sem]) rfl ⟨by rw [HW.out]; rfl, bt⟩
        | exact bodyPost_ret (v := .tuple #[.agg #[.int .i64 (-(natN (dropS a 1) : Int)), .int .i64 (natN (dropS (natRest (dropS a 1)) 1))], .bool true]) (by simp [results, Tryz.results24, go_sem]) rfl ⟨by rw [HW.out]; rfl, bt⟩
theorem rational_nativeOf (a : Str) (ha : a.length ≤ 1000000000) (w : World) :
    Calls Tryz.prog 24 #[.string ⟨a.toArray⟩] w fun e w' => e = .returned (natOfV a) ∧ Q w w' := by
  by_cases hm : a.head? = some 45
  · exact rational_nativeOf_minus a ha hm w
  · exact rational_nativeOf_plus a ha hm w
end Go.Proofs.YtohonlboaddppaaGreatDoor
