/-
  What the texts behind it need besides.
-/
import Derived.Test.YtohlpeicpoaanaaGreatDoorMA
import Derived.Test.YtohlpeicpoaanaaGreatDoorCA
import Derived.Test.YtohlpeicpoaanaaGreatDoorEnv
import Derived.Test.YtohlpeicpoaanaaGreatDoorWA
import Derived.Test.YtohlpeicpoaanaaGreatDoorBlk
import Derived.Test.YtohlpeicpoaanaaGreatDoorRegB
import Derived.Test.YtohlpeicpoaanaaGreatDoorBI1
import Derived.Test.YtohlpeicpoaanaaGreatDoorRow
import Derived.Test.YtohlpeicpoaanaaGreatDoorCB
import Derived.Test.YtohlpeicpoaanaaGreatDoorCC
import Derived.Test.YtohlpeicpoaanaaGreatDoorCE
import Derived.Test.YtohlpeicpoaanaaGreatDoorSortC
import Derived.Test.YtohlpeicpoaanaaGreatDoorCL
import Derived.Test.YtohlpeicpoaanaaGreatDoorCD
import Derived.Test.YtohlpeicpoaanaaGreatDoorShelf
import Derived.Test.YtohlpeicpoaanaaGreatDoorLib
import Derived.Test.YtohlpeicpoaanaaGreatDoorBL
import Derived.Test.YtohlpeicpoaanaaGreatDoorBuildB
import Derived.Test.YtohlpeicpoaanaaGreatDoorShelfD
import Derived.Test.YtohlpeicpoaanaaGreatDoorBM
import Derived.Test.YtohlpeicpoaanaaGreatDoorBN
import Derived.Test.YtohlpeicpoaanaaGreatDoorWC
import Derived.Test.YtohlpeicpoaanaaGreatDoorBO
import Derived.Test.YtohlpeicpoaanaaGreatDoorBP
import Derived.Test.YtohlpeicpoaanaaGreatDoorBQ
import Derived.Test.YtohlpeicpoaanaaGreatDoorBR
import Derived.Test.YtohlpeicpoaanaaGreatDoorRootM
import Derived.Test.YtohlpeicpoaanaaGreatDoorWD
import Derived.Test.YtohlpeicpoaanaaGreatDoorWF
import Derived.Test.YtohlpeicpoaanaaGreatDoorWG
import Derived.Test.YtohlpeicpoaanaaGreatDoorWI
import Derived.Test.YtohlpeicpoaanaaGreatDoorWM
import Derived.Test.YtohlpeicpoaanaaGreatDoorBS
import Derived.Test.YtohlpeicpoaanaaGreatDoorSD
import Derived.Test.YtohlpeicpoaanaaGreatDoorSQ
import Derived.Test.YtohlpeicpoaanaaGreatDoorSU1
import Derived.Test.YtohlpeicpoaanaaGreatDoorSU2
import Derived.Test.YtohlpeicpoaanaaGreatDoorVZ1
import Derived.Test.YtohlpeicpoaanaaGreatDoorVZ2
import Derived.Test.YtohlpeicpoaanaaGreatDoorVZ3
import Derived.Test.YtohlpeicpoaanaaGreatDoorCH
import Derived.Test.YtohlpeicpoaanaaGreatDoorCK
import Derived.Test.YtohlpeicpoaanaaGreatDoorCM
import Derived.Test.YtohlpeicpoaanaaGreatDoorCF
import Derived.Test.YtohlpeicpoaanaaGreatDoorFOW
namespace Kp
open Go.Lib (decDigits itoa nDigits)

/-- What stands ahead of the first c, and behind it; whether there is one. -/
def bef (c : UInt8) (s : Str) : Str := s.takeWhile (· ≠ c)
def aft (c : UInt8) (s : Str) : Str := (s.dropWhile (· ≠ c)).tail
def has (c : UInt8) (s : Str) : Bool := decide (c ∈ s)

theorem bef_app {c : UInt8} {x y : Str} (h : ¬ c ∈ x) : bef c (x ++ c :: y) = x :=
  takeWhile_stop _ _ _ (by simp) _ (fun z hz => by simp only [ne_eq, decide_eq_true_eq]; intro e; subst e; exact h hz)
theorem aft_app {c : UInt8} {x y : Str} (h : ¬ c ∈ x) : aft c (x ++ c :: y) = y := by
  unfold aft
  rw [dropWhile_stop _ c y (by simp) x (fun z hz => by simp only [ne_eq, decide_eq_true_eq]; intro e; subst e; exact h hz)]; rfl
theorem has_app {c : UInt8} {x y : Str} : has c (x ++ c :: y) = true := by simp [has]
theorem app_has {c : UInt8} : ∀ (s : Str), has c s = true → s = bef c s ++ c :: aft c s
  | [], h => by simp [has] at h
  | b :: r, h => by
    by_cases e : b = c
    · subst e; simp [bef, aft]
    · have hr : has c r = true := by
        simp only [has, decide_eq_true_eq, List.mem_cons] at h ⊢
        rcases h with h | h
        · exact absurd h.symm e
        · exact h
      have ih := app_has r hr
      have e1 : bef c (b :: r) = b :: bef c r := by unfold bef; rw [List.takeWhile_cons_of_pos (by simpa using e)]
      have e2 : aft c (b :: r) = aft c r := by unfold aft; rw [List.dropWhile_cons_of_pos (by simpa using e)]
      rw [e1, e2, List.cons_append, ← ih]
theorem has_false {c : UInt8} {s : Str} (h : has c s = false) : bef c s = s ∧ aft c s = [] := by
  have hm : ¬ c ∈ s := by simpa [has] using h
  have e : ∀ x ∈ s, decide (x ≠ c) = true := fun z hz => by simp only [ne_eq, decide_eq_true_eq]; intro e; subst e; exact hm hz
  refine ⟨takeWhile_all _ _ e, ?_⟩
  unfold aft; rw [(dropWhile_nil _ _).2 e]; rfl
theorem aft_len {c : UInt8} (s : Str) : (aft c s).length ≤ s.length := by
  unfold aft; rw [List.length_tail]; have := (List.dropWhile_sublist (p := fun x => decide (x ≠ c)) (l := s)).length_le; omega
theorem bef_len {c : UInt8} (s : Str) : (bef c s).length ≤ s.length := (List.takeWhile_sublist _).length_le
theorem aft_lt {c : UInt8} (s : Str) (h : has c s = true) : (aft c s).length < s.length := by
  have := congrArg List.length (app_has s h); simp only [List.length_append, List.length_cons] at this; omega
theorem cut_one (c : UInt8) (s : Str) : Go.Lib.cut s [c] = (bef c s, aft c s, has c s) := by
  unfold Go.Lib.cut
  obtain ⟨h1, h2⟩ := index_one s c
  cases hb : has c s with
  | true =>
    have h : c ∈ s := by simpa [has] using hb
    rw [h1 h, if_pos (by omega), Int.toNat_natCast]
    have e := app_has s hb
    have hl : (s.takeWhile (· ≠ c)).length = (bef c s).length := rfl
    rw [hl]
    have e1 : s.take (bef c s).length = bef c s := by
      have := List.take_left (l₁ := bef c s) (l₂ := c :: aft c s)
      rw [← e] at this; exact this
    have e2 : s.drop ((bef c s).length + 1) = aft c s := by
      have := List.drop_left (l₁ := bef c s ++ [c]) (l₂ := aft c s)
      rw [List.append_assoc, List.singleton_append, ← e, List.length_append] at this
      exact this
    rw [e1, show [c].length = 1 from rfl, e2]
  | false =>
    have h : ¬ c ∈ s := by simpa [has] using hb
    rw [h2 h, if_neg (by omega), (has_false hb).1, (has_false hb).2]

theorem dec_plain (n : Nat) (c : UInt8) (h : isDig c = false) : ¬ c ∈ decDigits n := fun hm => by rw [decDigits_dig n c hm] at h; cases h
theorem itoa_plain {z : Int} (h0 : 0 ≤ z) (c : UInt8) (h : isDig c = false) : ¬ c ∈ itoa z := by rw [itoa_nonneg h0]; exact dec_plain _ _ h
end Kp

namespace Go.Proofs.YtohlpeicpoaanaaGreatDoor
open Go.RowKit Kp

theorem builderAt_keep {T e : TypeId} {B b : Nat} {p : Value} {bs : List Value} {w w' : World} (h : Lib.BuilderAt T e B b p bs w) (hb : Below w.heap.size w w') : Lib.BuilderAt T e B b p bs w' := by
  have hl := h.lt
  obtain ⟨hB, v, hc, hown, hne⟩ := h
  exact ⟨hB, v, (hb.block b hl).trans hc, ownsRow_keep hown hb, hne⟩
theorem isBuilder_keep {T e : TypeId} {B b : Nat} {bs : List Value} {w w' : World} (h : Lib.IsBuilder T e B b bs w) (hb : Below w.heap.size w w') : Lib.IsBuilder T e B b bs w' :=
  h.elim (fun x => .inl (builderAt_keep x hb)) (fun x => .inr (builderAt_keep x hb))

end Go.Proofs.YtohlpeicpoaanaaGreatDoor

