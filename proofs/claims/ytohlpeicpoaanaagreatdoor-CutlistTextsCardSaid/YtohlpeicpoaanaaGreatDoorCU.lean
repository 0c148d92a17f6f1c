/-
  The text of pieces: no program.
-/
import Derived.Test.YtohlpeicpoaanaaGreatDoorCSup
import Derived.Lib.AtoiAll
namespace Go.Proofs.YtohlpeicpoaanaaGreatDoor
open Go.RowKit Kp
open Go.Lib (decDigits itoa nDigits)

/-- The parts of a string between the c's. -/
def sepAll (c : UInt8) (s : Str) : List Str := if _h : has c s = true then bef c s :: sepAll c (aft c s) else [s]
termination_by s.length
decreasing_by exact aft_lt s _h
theorem sepAll_no {c : UInt8} {s : Str} (h : has c s = false) : sepAll c s = [s] := by rw [sepAll, dif_neg (by rw [h]; decide)]
theorem sepAll_yes {c : UInt8} {s : Str} (h : has c s = true) : sepAll c s = bef c s :: sepAll c (aft c s) := by rw [sepAll, dif_pos h]
theorem sepAll_app {c : UInt8} {x y : Str} (h : ¬ c ∈ x) : sepAll c (x ++ c :: y) = x :: sepAll c y := by rw [sepAll_yes has_app, bef_app h, aft_app h]
theorem sepAll_len (c : UInt8) : ∀ (n : Nat) (s : Str), s.length ≤ n → (sepAll c s).length ≤ s.length + 1
  | 0, s, h => by
    obtain rfl : s = [] := List.eq_nil_of_length_eq_zero (by omega)
    rw [sepAll_no (by simp [has])]; simp
  | n + 1, s, h => by
    cases hh : has c s with
    | false => rw [sepAll_no hh]; simp
    | true =>
      have h1 := aft_lt s hh
      have ih := sepAll_len c n (aft c s) (by omega)
      rw [sepAll_yes hh, List.length_cons]; omega

theorem sepAll_mem (c : UInt8) : ∀ (n : Nat) (s : Str), s.length ≤ n → ∀ x ∈ sepAll c s, x.length ≤ s.length
  | 0, s, h, x, hx => by
    obtain rfl : s = [] := List.eq_nil_of_length_eq_zero (by omega)
    rw [sepAll_no (by simp [has]), List.mem_singleton] at hx
    rw [hx]; exact Nat.le_refl _
  | n + 1, s, h, x, hx => by
    cases hh : has c s with
    | false => rw [sepAll_no hh, List.mem_singleton] at hx; rw [hx]; exact Nat.le_refl _
    | true =>
      have h1 := aft_lt s hh
      rw [sepAll_yes hh, List.mem_cons] at hx
      rcases hx with rfl | hx
      · exact bef_len s
      · have := sepAll_mem c n (aft c s) (by omega) x hx; omega

/-- The numbers of a piece. -/
def numF (x : Ct) : List Int := x.w :: x.d :: x.n :: x.ms
/-- Numbers, a blank between them. -/
def joinF : List Int → Str
  | [] => []
  | z :: r => itoa z ++ r.flatMap fun y => 32 :: itoa y
theorem joinF_snoc (l : List Int) (z : Int) : joinF (l ++ [z]) = if l = [] then itoa z else joinF l ++ 32 :: itoa z := by
  cases l with
  | nil => simp [joinF]
  | cons a r => simp [joinF]
theorem joinF_two (a b : Int) (r : List Int) : joinF (a :: b :: r) = itoa a ++ 32 :: joinF (b :: r) := by simp [joinF]
/-- The text of pieces. -/
def textF (l : List Ct) : Str := l.flatMap fun x => joinF (numF x) ++ [10]
theorem textF_take {l : List Ct} {k : Nat} (h : k < l.length) : textF (l.take (k + 1)) = textF (l.take k) ++ (joinF (numF (ctAt l k)) ++ [10]) := by
  unfold textF
  rw [List.take_succ_eq_append_getElem h, List.flatMap_append, ctAt_get h]; simp

theorem joinF_plain {c : UInt8} (hd : isDig c = false) (hc : c ≠ 32) : ∀ l : List Int, (∀ z ∈ l, 0 ≤ z) → ¬ c ∈ joinF l
  | [], _ => by simp [joinF]
  | [z], h => by simp only [joinF, List.flatMap_nil, List.append_nil]; exact itoa_plain (h z (by simp)) c hd
  | a :: b :: r, h => by
    rw [joinF_two]
    simp only [List.mem_append, List.mem_cons, not_or]
    exact ⟨itoa_plain (h a (by simp)) c hd, hc, joinF_plain hd hc (b :: r) (fun z hz => h z (by simp at hz ⊢; exact .inr hz))⟩
theorem sep_join : ∀ (z : Int) (l : List Int), (∀ y ∈ z :: l, 0 ≤ y) → sepAll 32 (joinF (z :: l)) = (z :: l).map itoa
  | z, [], h => by
    have : ¬ (32 : UInt8) ∈ itoa z := itoa_plain (h z (by simp)) 32 (by decide)
    rw [show joinF [z] = itoa z by simp [joinF], sepAll_no (by simpa [has] using this)]; rfl
  | z, b :: r, h => by
    rw [joinF_two, sepAll_app (itoa_plain (h z (by simp)) 32 (by decide)), sep_join b r (fun y hy => h y (by simp at hy ⊢; exact .inr hy))]; rfl

/-- What a word is worth. -/
def atoV (s : Str) : Option Int := match Go.Lib.atoiAll s with | .ok z => some z | _ => none
theorem atoV_itoa {z : Int} (h : (itoa z).length ≤ 18) : atoV (itoa z) = some z := by
  unfold atoV
  rw [Go.Lib.atoiAll_short _ h, atoi_itoa]; rfl
/-- The numbers of words, one after the other. -/
def numsV : List Str → Option (List Int)
  | [] => some []
  | s :: r => match atoV s with | none => none | some z => (numsV r).map (z :: ·)
theorem numsV_map : ∀ l : List Int, (∀ z ∈ l, (itoa z).length ≤ 18) → numsV (l.map itoa) = some l
  | [], _ => rfl
  | z :: l, h => by
    rw [List.map_cons, numsV, atoV_itoa (h z (by simp)), numsV_map l (fun y hy => h y (by simp [hy]))]; rfl
theorem numsV_snoc : ∀ (l : List Str) (s : Str), numsV (l ++ [s]) = (numsV l).bind fun x => (atoV s).map (x ++ [·])
  | [], s => by rw [List.nil_append]; unfold numsV; cases atoV s <;> simp [numsV]
  | a :: l, s => by
    rw [List.cons_append, numsV, numsV]
    cases atoV a with
    | none => rfl
    | some z =>
      simp only
      rw [numsV_snoc l s]
      cases numsV l <;> cases atoV s <;> rfl
theorem numsV_none : ∀ (l m : List Str), numsV l = none → numsV (l ++ m) = none
  | [], m, h => by cases h
  | a :: l, m, h => by
    rw [List.cons_append]
    rw [numsV] at h ⊢
    cases ha : atoV a with
    | none => rfl
    | some z =>
      rw [ha] at h
      simp only at h ⊢
      rw [numsV_none l m (by cases hl : numsV l with | none => rfl | some x => rw [hl] at h; cases h)]; rfl
theorem numsV_len : ∀ (l : List Str) (x : List Int), numsV l = some x → x.length = l.length
  | [], x, h => by cases h; rfl
  | a :: l, x, h => by
    rw [numsV] at h
    cases ha : atoV a with
    | none => rw [ha] at h; cases h
    | some z =>
      rw [ha] at h
      simp only at h
      cases hl : numsV l with
      | none => rw [hl] at h; cases h
      | some y =>
        rw [hl] at h
        cases h
        rw [List.length_cons, numsV_len l y hl, List.length_cons]

/-- The piece of some numbers. -/
def pieceV (l : List Int) : Option Ct := if l.length < 4 then none else some ⟨atI l 0, atI l 1, atI l 2, l.drop 3⟩
theorem pieceV_num {x : Ct} (h : 0 < x.ms.length) : pieceV (numF x) = some x := by
  unfold pieceV numF
  rw [if_neg (by simp; omega)]
  rfl
/-- The piece of a line. -/
def lineV (s : Str) : Option Ct := (numsV (sepAll 32 s)).bind pieceV
/-- The pieces of a text, each line on its own. -/
def linesV (s : Str) : Option (List Ct) :=
  if s = [] then some [] else if _h : has 10 s = true then match lineV (bef 10 s) with | none => none | some x => (linesV (aft 10 s)).map (x :: ·) else none
termination_by s.length
decreasing_by exact aft_lt s _h
theorem linesV_nil : linesV [] = some [] := by rw [linesV, if_pos rfl]
theorem linesV_cons {s : Str} (h0 : s ≠ []) (h1 : has 10 s = true) {x : Ct} (h2 : lineV (bef 10 s) = some x) : linesV s = (linesV (aft 10 s)).map (x :: ·) := by
  rw [linesV, if_neg h0, dif_pos h1, h2]
theorem linesV_bad {s : Str} (h0 : s ≠ []) (h : has 10 s = false ∨ lineV (bef 10 s) = none) : linesV s = none := by
  rw [linesV, if_neg h0]
  by_cases h1 : has 10 s = true
  · rw [dif_pos h1]
    rcases h with h | h
    · rw [h1] at h; cases h
    · rw [h]
  · rw [dif_neg h1]

theorem PcOk.short {x : Ct} (h : PcOk x) : x.ms.length ≤ 512 := by
  have key : ∀ i, i < x.ms.length → (i : Int) ≤ atI x.ms i := fun i => by
    induction i with
    | zero => intro hi; rw [atI_get hi]; exact (h.off _ (List.getElem_mem hi)).1
    | succ i ih =>
      intro hi
      have h1 := ih (by omega)
      have h2 := asc_at h.asc hi
      omega
  have h0 := h.some
  have h1 := key (x.ms.length - 1) (by omega)
  have h2 := (h.off (atI x.ms (x.ms.length - 1)) (by rw [atI_get (by omega)]; exact List.getElem_mem _)).2
  omega
theorem lineV_len {s : Str} {x : Ct} (h : lineV s = some x) : x.ms.length ≤ s.length + 1 := by
  unfold lineV at h
  cases hn : numsV (sepAll 32 s) with
  | none => rw [hn] at h; cases h
  | some l =>
    rw [hn, Option.bind_some] at h
    unfold pieceV at h
    have h1 := numsV_len _ _ hn
    have h2 := sepAll_len 32 _ s (Nat.le_refl _)
    split at h
    · cases h
    · cases h
      show (l.drop 3).length ≤ _
      rw [List.length_drop]; omega
theorem itoa_six {z : Int} (h0 : 0 ≤ z) (h1 : z < 10000000) : (itoa z).length ≤ 7 := by
  rw [itoa_nonneg h0]
  exact (decDigits_len_le _ 7 (by decide)).2 (by omega)
theorem PcOk.nums {x : Ct} (h : PcOk x) : ∀ z ∈ numF x, 0 ≤ z ∧ z < 10000000 := by
  intro z hz
  unfold numF at hz
  simp only [List.mem_cons] at hz
  obtain ⟨w1, w2, d1, d2, n1, n2, -, hof, -⟩ := h
  rcases hz with rfl | rfl | rfl | hz
  · omega
  · omega
  · omega
  · have := hof z hz; omega
theorem textF_cons (x : Ct) (l : List Ct) : textF (x :: l) = joinF (numF x) ++ 10 :: textF l := by unfold textF; rw [List.flatMap_cons]; simp
/-- The text of pieces shows them. -/
theorem lines_text : ∀ l : List Ct, (∀ x ∈ l, PcOk x) → linesV (textF l) = some l
  | [], _ => linesV_nil
  | x :: l, h => by
    have hx := h x (by simp)
    have hn := hx.nums
    have hp : ¬ (10 : UInt8) ∈ joinF (numF x) := joinF_plain (by decide) (by decide) _ (fun z hz => (hn z hz).1)
    have hl : lineV (joinF (numF x)) = some x := by
      unfold lineV
      rw [show numF x = x.w :: (x.d :: x.n :: x.ms) from rfl, sep_join _ _ (fun z hz => (hn z hz).1), numsV_map _ (fun z hz => by have := itoa_six (hn z hz).1 (hn z hz).2; omega), Option.bind_some]
      exact pieceV_num hx.some
    rw [textF_cons, linesV_cons (by simp) has_app (by rw [bef_app hp]; exact hl), aft_app hp, lines_text l (fun y hy => h y (by simp [hy]))]; rfl

theorem joinF_len : ∀ l : List Int, (∀ z ∈ l, 0 ≤ z ∧ z < 10000000) → (joinF l).length ≤ 8 * l.length
  | [], _ => by simp [joinF]
  | [z], h => by
    have := itoa_six (h z (by simp)).1 (h z (by simp)).2
    simp only [joinF, List.flatMap_nil, List.append_nil, List.length_singleton]; omega
  | a :: b :: r, h => by
    have h1 := itoa_six (h a (by simp)).1 (h a (by simp)).2
    have ih := joinF_len (b :: r) (fun z hz => h z (by simp at hz ⊢; exact .inr hz))
    rw [joinF_two, List.length_append, List.length_cons, List.length_cons]
    rw [List.length_cons] at ih ⊢
    omega
theorem textF_len : ∀ (l : List Ct), (∀ x ∈ l, PcOk x ∧ x.ms.length ≤ 512) → (textF l).length ≤ 4200 * l.length
  | [], _ => by simp [textF]
  | x :: l, h => by
    have ih := textF_len l (fun y hy => h y (by simp [hy]))
    have hx := h x (by simp)
    have hj := joinF_len _ hx.1.nums
    rw [textF_cons, List.length_append, List.length_cons, List.length_cons]
    have : (numF x).length = x.ms.length + 3 := rfl
    omega

end Go.Proofs.YtohlpeicpoaanaaGreatDoor
