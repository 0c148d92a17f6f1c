/-
  Finding sizes: no program.
-/
import Derived.Test.YtgkikkabmcihhaaGreatDoorTextM
namespace Kp

theorem sfind_some {l : List Sz} {k : Int} {s : Sz} (h : sfind l k = some s) : s ∈ l ∧ s.k = k := by
  unfold sfind at h
  refine ⟨List.mem_of_find?_eq_some h, ?_⟩
  have := List.find?_some h
  simpa using this
theorem sfind_none {l : List Sz} {k : Int} (h : sfind l k = none) : ∀ s ∈ l, s.k ≠ k := by
  unfold sfind at h
  intro s hs e
  have := List.find?_eq_none.1 h s hs
  simp [e] at this

/-- A kind that occurs at most once. -/
theorem sfind_unique {l : List Sz} (hd : (l.map Sz.k).Nodup) {s : Sz} (hs : s ∈ l) : sfind l s.k = some s := by
  cases h : sfind l s.k with
  | none => exact absurd rfl (sfind_none h s hs)
  | some t =>
    obtain ⟨ht, hk⟩ := sfind_some h
    congr 1
    induction l with
    | nil => cases hs
    | cons x l ih =>
      rw [List.map_cons, List.nodup_cons] at hd
      rcases List.mem_cons.1 hs with e | e
      · rcases List.mem_cons.1 ht with f | f
        · rw [e, f]
        · exact absurd (List.mem_map.2 ⟨t, f, by rw [hk, e]⟩) hd.1
      · rcases List.mem_cons.1 ht with f | f
        · exact absurd (List.mem_map.2 ⟨s, e, by rw [← hk, f]⟩) hd.1
        · refine ih hd.2 e ?_ f
          cases h2 : sfind l s.k with
          | none => exact absurd rfl (sfind_none h2 s e)
          | some u =>
            unfold sfind at h h2
            rw [List.find?_cons] at h
            have hx : (x.k == s.k) = false := by
              rw [beq_eq_false_iff_ne]; intro e2
              exact hd.1 (List.mem_map.2 ⟨s, e, e2.symm⟩)
            rw [hx] at h; simp only at h; rw [h] at h2; exact h2.symm

theorem scheck_congr : ∀ (l : List Sz) (s t : List Int), (∀ x, x ∈ s ↔ x ∈ t) → scheck l s = scheck l t
  | [], _, _, _ => rfl
  | x :: l, s, t, h => by
    rw [scheck, scheck, scheck_congr l (x.k :: s) (x.k :: t) (fun y => by rw [List.mem_cons, List.mem_cons, h y])]
    simp only [h x.k]
theorem getD_mem {l : List Sz} {k : Nat} (h : k < l.length) : l.getD k ⟨0, 0, 0⟩ ∈ l := by
  rw [List.getD_eq_getElem?_getD, List.getElem?_eq_getElem h]; exact List.getElem_mem h
theorem mem_getD {l : List Sz} {s : Sz} (h : s ∈ l) : ∃ i, i < l.length ∧ l.getD i ⟨0, 0, 0⟩ = s := by
  obtain ⟨i, hi, e⟩ := List.mem_iff_getElem.1 h
  exact ⟨i, hi, by rw [List.getD_eq_getElem?_getD, List.getElem?_eq_getElem hi]; exact e⟩
theorem drop_getD {l : List Sz} {k : Nat} (h : k < l.length) : l.drop k = l.getD k ⟨0, 0, 0⟩ :: l.drop (k + 1) := by
  rw [List.drop_eq_getElem_cons h, List.getD_eq_getElem?_getD, List.getElem?_eq_getElem h]; rfl
theorem take_getD {l : List Sz} {k : Nat} (h : k < l.length) : l.take (k + 1) = l.take k ++ [l.getD k ⟨0, 0, 0⟩] := by
  rw [List.take_succ_eq_append_getElem h, List.getD_eq_getElem?_getD, List.getElem?_eq_getElem h]; rfl
theorem mem_take_map {l : List Sz} {j k : Nat} (hj : j < k) (hk : k ≤ l.length) : (l.getD j ⟨0, 0, 0⟩).k ∈ (l.take k).map Sz.k := by
  refine List.mem_map.2 ⟨_, ?_, rfl⟩
  have : l.getD j ⟨0, 0, 0⟩ = (l.take k).getD j ⟨0, 0, 0⟩ := by
    rw [List.getD_eq_getElem?_getD, List.getD_eq_getElem?_getD, List.getElem?_take_of_lt hj]
  rw [this]; exact getD_mem (by rw [List.length_take]; omega)
theorem not_mem_take_map {l : List Sz} {k : Nat} {x : Int} (h : ∀ i, i < k → (l.getD i ⟨0, 0, 0⟩).k ≠ x) : ¬ x ∈ (l.take k).map Sz.k := by
  intro hm
  obtain ⟨s, hs, e⟩ := List.mem_map.1 hm
  obtain ⟨i, hi, e2⟩ := mem_getD hs
  rw [List.length_take] at hi
  have : l.getD i ⟨0, 0, 0⟩ = (l.take k).getD i ⟨0, 0, 0⟩ := by
    rw [List.getD_eq_getElem?_getD, List.getD_eq_getElem?_getD, List.getElem?_take_of_lt (by omega)]
  exact h i (by omega) (by rw [this, e2]; exact e)
theorem scheck_step {l : List Sz} {k : Nat} (h : k < l.length) : scheck (l.drop (k + 1)) ((l.getD k ⟨0, 0, 0⟩).k :: (l.take k).map Sz.k) = scheck (l.drop (k + 1)) ((l.take (k + 1)).map Sz.k) :=
  scheck_congr _ _ _ (fun x => by rw [take_getD h, List.map_append, List.mem_cons, List.mem_append]; simp [or_comm])

/-- The first place of a kind, -1 if there is none. -/
def FindIx (l : List Sz) (k r : Int) : Prop := (r = -1 ∧ sfind l k = none) ∨ ∃ i, i < l.length ∧ r = (i : Int) ∧ sfind l k = some (l.getD i ⟨0, 0, 0⟩)
theorem sfind_at : ∀ {l : List Sz} {i : Nat} {k : Int}, i < l.length → (∀ j, j < i → (l.getD j ⟨0, 0, 0⟩).k ≠ k) → (l.getD i ⟨0, 0, 0⟩).k = k → sfind l k = some (l.getD i ⟨0, 0, 0⟩)
  | [], _, _, h, _, _ => by simp at h
  | s :: l, 0, k, _, _, e => by
    unfold sfind; rw [List.find?_cons]
    have : (s.k == k) = true := by rw [beq_iff_eq]; exact e
    rw [this]; rfl
  | s :: l, i + 1, k, h, hn, e => by
    have h0 : s.k ≠ k := hn 0 (by omega)
    unfold sfind; rw [List.find?_cons]
    have : (s.k == k) = false := by rw [beq_eq_false_iff_ne]; exact h0
    rw [this]
    exact sfind_at (l := l) (i := i) (by simpa using h) (fun j hj => hn (j + 1) (by omega)) e
theorem sfind_all {l : List Sz} {k : Int} (hn : ∀ j, j < l.length → (l.getD j ⟨0, 0, 0⟩).k ≠ k) : sfind l k = none := by
  cases h : sfind l k with
  | none => rfl
  | some s =>
    obtain ⟨a, b⟩ := sfind_some h
    obtain ⟨i, hi, e⟩ := mem_getD a
    exact absurd (by rw [e]; exact b) (hn i hi)

/-- What Find answers. -/
def fsz (l : List Sz) (k : Int) : Sz := if scheck l [] = 0 then (sfind l k).getD ⟨0, 0, 0⟩ else ⟨0, 0, 0⟩
def ferr (l : List Sz) (k : Int) : Int := if scheck l [] = 0 then (if (sfind l k).isSome then 0 else 6) else 1

theorem sfind_reverse {l : List Sz} (hd : (l.map Sz.k).Nodup) (k : Int) : sfind l.reverse k = sfind l k := by
  have hr : (l.reverse.map Sz.k).Nodup := by rw [List.map_reverse]; exact (List.reverse_perm _).nodup_iff.2 hd
  cases h : sfind l k with
  | none =>
    have hn := sfind_none h
    cases h2 : sfind l.reverse k with
    | none => rfl
    | some s =>
      obtain ⟨a, b⟩ := sfind_some h2
      exact absurd b (hn s (List.mem_reverse.1 a))
  | some s =>
    obtain ⟨a, b⟩ := sfind_some h
    have := sfind_unique hr (List.mem_reverse.2 a)
    rw [b] at this; exact this
theorem fsz_reverse (l : List Sz) (k : Int) : fsz l.reverse k = fsz l k := by
  unfold fsz
  by_cases h : scheck l [] = 0
  · rw [if_pos h, if_pos ((scheck_reverse l).2 h), sfind_reverse ((scheck_zero l []).1 h).2.1]
  · rw [if_neg h, if_neg (fun x => h ((scheck_reverse l).1 x))]
theorem ferr_reverse (l : List Sz) (k : Int) : ferr l.reverse k = ferr l k := by
  unfold ferr
  by_cases h : scheck l [] = 0
  · rw [if_pos h, if_pos ((scheck_reverse l).2 h), sfind_reverse ((scheck_zero l []).1 h).2.1]
  · rw [if_neg h, if_neg (fun x => h ((scheck_reverse l).1 x))]

/-- How many kinds lie below a number. -/
def cntBelow (l : List Sz) (m : Int) : Nat := (l.filter fun s => decide (s.k < m)).length
theorem filter_split : ∀ (l : List Sz) (m : Int), (l.filter fun s => decide (s.k < m + 1)).length = (l.filter fun s => decide (s.k < m)).length + ((l.map Sz.k).count m)
  | [], _ => rfl
  | s :: l, m => by
    have ih := filter_split l m
    rw [List.map_cons, List.count_cons, List.filter_cons, List.filter_cons]
    by_cases h1 : s.k < m
    · have h2 : s.k < m + 1 := by omega
      have h3 : (s.k == m) = false := by rw [beq_eq_false_iff_ne]; omega
      simp only [h1, h2, h3, decide_true, if_true, List.length_cons, ih]; simp; omega
    · by_cases h4 : s.k = m
      · have h2 : s.k < m + 1 := by omega
        have h3 : (s.k == m) = true := by rw [beq_iff_eq]; exact h4
        have h5 : decide (s.k < m) = false := by simpa using h1
        simp only [h5, h2, h3, decide_true, if_true, List.length_cons, ih]; simp; omega
      · have h2 : decide (s.k < m + 1) = false := by simp; omega
        have h3 : (s.k == m) = false := by rw [beq_eq_false_iff_ne]; omega
        have h5 : decide (s.k < m) = false := by simpa using h1
        simp only [h5, h2, h3]; simp; exact ih
theorem cnt_found {l : List Sz} (hd : (l.map Sz.k).Nodup) {m : Int} {s : Sz} (h : sfind l m = some s) : cntBelow l (m + 1) = cntBelow l m + 1 := by
  unfold cntBelow
  rw [filter_split]
  congr 1
  obtain ⟨a, b⟩ := sfind_some h
  have h1 : 0 < (l.map Sz.k).count m := List.count_pos_iff.2 (List.mem_map.2 ⟨s, a, b⟩)
  have h2 := List.nodup_iff_count.1 hd m
  omega
theorem cnt_missed {l : List Sz} {m : Int} (h : sfind l m = none) : cntBelow l (m + 1) = cntBelow l m := by
  unfold cntBelow
  rw [filter_split]
  have h1 : (l.map Sz.k).count m = 0 := List.count_eq_zero.2 (fun hm => by
    obtain ⟨s, a, b⟩ := List.mem_map.1 hm
    exact sfind_none h s a b)
  rw [h1]; rfl
theorem cnt_start {l : List Sz} (h : ∀ s ∈ l, s.ok) : cntBelow l (-1) = 0 := by
  unfold cntBelow
  rw [List.filter_eq_nil_iff.2]
  · rfl
  · intro s hs; have := (h s hs).1; simp; omega
theorem cnt_all {l : List Sz} (h : ∀ s ∈ l, s.ok) : cntBelow l 14 = l.length := by
  unfold cntBelow
  rw [List.filter_eq_self.2]
  intro s hs; have := (h s hs).2.1; simp; omega

end Kp
