/-
  Walks: timber.Print.
-/
import Derived.Test.YthokehkdpmbeaaaGreatDoorWQ
import Derived.Test.YthokehkdpmbeaaaGreatDoorBlk
import Derived.Test.YthokehkdpmbeaaaGreatDoorTimberM
import Derived.Test.YthokehkdpmbeaaaGreatDoorBuildB
import Derived.Lib.MinMax
namespace Go.Proofs.YthokehkdpmbeaaaGreatDoor
open Go.RowKit Kp

theorem add_rule (P : Program) (a b : Str) (h : a.length + b.length ≤ 1000) (w : World) : (Op.stringOp .add ⟨a.toArray⟩ ⟨b.toArray⟩).run P w = .ok (.string ⟨(a ++ b).toArray⟩) w := by
  rw [run_string_add_sum w _ _ (by show a.length + b.length ≤ _; omega), ByteArray.mk_append_mk]
end Go.Proofs.YthokehkdpmbeaaaGreatDoor
