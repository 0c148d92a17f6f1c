/-
  Walks: timber.stretched, Square, Plumb at small numbers.
-/
import Derived.Test.YthokehkdpmbeaaaGreatDoorWO
import Derived.Lib.SmallJoins
namespace Go.Proofs.YthokehkdpmbeaaaGreatDoor
open Go.RowKit Kp

theorem small_one : Small8 1 := by unfold Small8; decide

theorem small_of {q : Rat} {n : Int} {d : Nat} (hn : q.num = n) (hd : q.den = d) (h : n.natAbs < 100000000 ∧ d < 100000000) : Small8 q := by
  unfold Small8; rw [hn, hd]; exact h
theorem s1 : Small8 ((1 : Nat) : Rat) := small_of (n := 1) (d := 1) (by kernel_rfl) (by kernel_rfl) (by decide)
theorem v1 : ((1 : Nat) : Rat) = 1 := by kernel_rfl

end Go.Proofs.YthokehkdpmbeaaaGreatDoor
