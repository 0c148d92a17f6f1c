/-
  The row of TimberSlopes: what its facts say. TimberSlopes answers true for every three bytes and every uint16. The package-level variables that the row lists hold what the program's text lays.
-/
import Derived.Test.YtgkikkabmcihhaaGreatDoorWit
namespace Go.Proofs.YtgkikkabmcihhaaGreatDoor.slopes
open Go.ChangeShapes Go.WideShapes Go.ChangeAt Go.RowKit Go.Deep Kp

theorem named : Tryz.pinned.checked.prog.funcNamed Rows.timberSlopesRow.func = some 9 := by kernel_rfl
theorem facts : joinedFacts Tryz.pinned.checked.prog 9 Tryz.f9 (OpenSpec.ofChange Rows.timberSlopesSpec).bare Rows.timberSlopesRow = true := by kernel_rfl
theorem inst : Tryz.f9.isInstance Tryz.pinned.checked.prog Rows.timberSlopesRow.origin Rows.timberSlopesRow.targs := of_decide_eq_true (by kernel_rfl)
theorem wrap : Tryz.f9.isWrapper Tryz.pinned.checked.prog Rows.timberSlopesRow.wrapper Rows.timberSlopesRow.mainSum := by unfold Func.isWrapper; first | (rw [if_pos (by decide +kernel)]; kernel_rfl) | (rw [if_neg (by decide +kernel)]; exact ⟨rfl, rfl⟩)

end Go.Proofs.YtgkikkabmcihhaaGreatDoor.slopes
