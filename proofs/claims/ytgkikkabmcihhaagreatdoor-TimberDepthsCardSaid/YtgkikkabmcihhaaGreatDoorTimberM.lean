/-
  The mathematics of timber's sizes: no program.
-/
import Derived.Test.YtgkikkabmcihhaaGreatDoorMA
namespace Kp

/-- A size: kind, width, depth. -/
structure Sz where
  k : Int
  w : Int
  d : Int
deriving DecidableEq

/-- Kind, width and depth are in range. -/
def Sz.ok (s : Sz) : Prop := 1 ≤ s.k ∧ s.k ≤ 12 ∧ 1 ≤ s.w ∧ s.w ≤ 1000 ∧ 1 ≤ s.d ∧ s.d ≤ 1000
instance (s : Sz) : Decidable s.ok := by unfold Sz.ok; infer_instance

/-- What Check answers behind the kinds that were seen. -/
def scheck : List Sz → List Int → Int
  | [], _ => 0
  | s :: l, seen =>
    if s.k < 1 ∨ 13 ≤ s.k then 8
    else if min s.w s.d < 1 ∨ 1000 < max s.w s.d then 2
    else if s.k ∈ seen then 7
    else scheck l (s.k :: seen)

theorem scheck_zero : ∀ (l : List Sz) (seen : List Int), scheck l seen = 0 ↔ (∀ s ∈ l, s.ok) ∧ (l.map Sz.k).Nodup ∧ ∀ s ∈ l, s.k ∉ seen
  | [], seen => by simp [scheck]
  | s :: l, seen => by
    have ih := scheck_zero l (s.k :: seen)
    unfold scheck
    by_cases h1 : s.k < 1 ∨ 13 ≤ s.k
    · rw [if_pos h1]
      constructor
      · intro h; omega
      · rintro ⟨h, -⟩
        have := h s (by simp)
        unfold Sz.ok at this; omega
    · rw [if_neg h1]
      by_cases h2 : min s.w s.d < 1 ∨ 1000 < max s.w s.d
      · rw [if_pos h2]
        constructor
        · intro h; omega
        · rintro ⟨h, -⟩
          have := h s (by simp)
          unfold Sz.ok at this; omega
      · rw [if_neg h2]
        by_cases h3 : s.k ∈ seen
        · rw [if_pos h3]
          constructor
          · intro h; omega
          · rintro ⟨-, -, h⟩
            exact absurd h3 (h s (by simp))
        · rw [if_neg h3, ih]
          have hok : s.ok := by unfold Sz.ok; omega
          constructor
          · rintro ⟨a, b, c⟩
            refine ⟨?_, ?_, ?_⟩
            · intro x hx
              rcases List.mem_cons.1 hx with rfl | hx
              · exact hok
              · exact a x hx
            · rw [List.map_cons, List.nodup_cons]
              refine ⟨?_, b⟩
              intro hm
              obtain ⟨x, hx, he⟩ := List.mem_map.1 hm
              exact c x hx (by rw [he]; exact List.mem_cons_self)
            · intro x hx
              rcases List.mem_cons.1 hx with rfl | hx
              · exact h3
              · exact fun h => c x hx (List.mem_cons_of_mem _ h)
          · rintro ⟨a, b, c⟩
            rw [List.map_cons, List.nodup_cons] at b
            refine ⟨fun x hx => a x (List.mem_cons_of_mem _ hx), b.2, ?_⟩
            intro x hx h
            rcases List.mem_cons.1 h with h | h
            · exact b.1 (List.mem_map.2 ⟨x, hx, h⟩)
            · exact c x (List.mem_cons_of_mem _ hx) h

/-- The order of sizes does not matter for whether they are right. -/
theorem scheck_reverse (l : List Sz) : scheck l.reverse [] = 0 ↔ scheck l [] = 0 := by
  rw [scheck_zero, scheck_zero]
  rw [List.map_reverse, (List.reverse_perm _).nodup_iff]
  simp only [List.mem_reverse]

/-- The size of a kind. -/
def sfind (l : List Sz) (k : Int) : Option Sz := l.find? fun s => s.k == k

end Kp
