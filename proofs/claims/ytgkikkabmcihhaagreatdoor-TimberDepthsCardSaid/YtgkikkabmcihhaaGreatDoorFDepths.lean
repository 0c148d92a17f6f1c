/-
  The row of TimberDepths: what its facts say. TimberDepths answers true for every string of a number and every int. The package-level variables that the row lists hold what the program's text lays.
-/
import Derived.Test.YtgkikkabmcihhaaGreatDoorWit
namespace Go.Proofs.YtgkikkabmcihhaaGreatDoor.depths
open Go.ChangeShapes Go.WideShapes Go.ChangeAt Go.RowKit Go.Deep Kp

theorem named : Tryz.pinned.checked.prog.funcNamed Rows.timberDepthsRow.func = some 3 := by kernel_rfl
theorem facts : joinedFacts Tryz.pinned.checked.prog 3 Tryz.f3 (OpenSpec.ofChange Rows.timberDepthsSpec).bare Rows.timberDepthsRow = true := by kernel_rfl
theorem inst : Tryz.f3.isInstance Tryz.pinned.checked.prog Rows.timberDepthsRow.origin Rows.timberDepthsRow.targs := of_decide_eq_true (by kernel_rfl)
theorem wrap : Tryz.f3.isWrapper Tryz.pinned.checked.prog Rows.timberDepthsRow.wrapper Rows.timberDepthsRow.mainSum := by unfold Func.isWrapper; first | (rw [if_pos (by decide +kernel)]; kernel_rfl) | (rw [if_neg (by decide +kernel)]; exact ⟨rfl, rfl⟩)

end Go.Proofs.YtgkikkabmcihhaaGreatDoor.depths
