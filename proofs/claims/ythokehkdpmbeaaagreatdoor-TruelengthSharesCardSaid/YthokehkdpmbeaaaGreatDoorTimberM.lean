/-
  The mathematics of timber's sizes: no program.
-/
import Derived.Test.YthokehkdpmbeaaaGreatDoorMA
namespace Kp

/-- A size: kind, width, depth. -/
structure Sz where
  k : Int
  w : Int
  d : Int
deriving DecidableEq

/-- Kind, width and depth are in range. -/
def Sz.ok (s : Sz) : Prop := 1 ≤ s.k ∧ s.k ≤ 12 ∧ 1 ≤ s.w ∧ s.w ≤ 1000 ∧ 1 ≤ s.d ∧ s.d ≤ 1000
instance (s : Sz) : Decidable s.ok := by unfold Sz.ok; infer_instance

end Kp
