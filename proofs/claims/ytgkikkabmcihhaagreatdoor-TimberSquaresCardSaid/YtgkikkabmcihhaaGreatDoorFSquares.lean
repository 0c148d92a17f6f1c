/-
  The row of TimberSquares: what its facts say. TimberSquares answers true for every two bytes and every uint16. The package-level variables that the row lists hold what the program's text lays.
-/
import Derived.Test.YtgkikkabmcihhaaGreatDoorWit
namespace Go.Proofs.YtgkikkabmcihhaaGreatDoor.squares
open Go.ChangeShapes Go.WideShapes Go.ChangeAt Go.RowKit Go.Deep Kp

theorem named : Tryz.pinned.checked.prog.funcNamed Rows.timberSquaresRow.func = some 8 := by kernel_rfl
theorem facts : joinedFacts Tryz.pinned.checked.prog 8 Tryz.f8 (OpenSpec.ofChange Rows.timberSquaresSpec).bare Rows.timberSquaresRow = true := by kernel_rfl
theorem inst : Tryz.f8.isInstance Tryz.pinned.checked.prog Rows.timberSquaresRow.origin Rows.timberSquaresRow.targs := of_decide_eq_true (by kernel_rfl)
theorem wrap : Tryz.f8.isWrapper Tryz.pinned.checked.prog Rows.timberSquaresRow.wrapper Rows.timberSquaresRow.mainSum := by unfold Func.isWrapper; first | (rw [if_pos (by decide +kernel)]; kernel_rfl) | (rw [if_neg (by decide +kernel)]; exact ⟨rfl, rfl⟩)

end Go.Proofs.YtgkikkabmcihhaaGreatDoor.squares
