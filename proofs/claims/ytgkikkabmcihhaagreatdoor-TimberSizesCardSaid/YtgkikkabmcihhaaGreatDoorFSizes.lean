/-
  The row of TimberSizes: what its facts say. TimberSizes answers true for every slice of sizes, every int and every string and leaves them as they were. The package-level variables that the row lists hold what the program's text lays.
-/
import Derived.Test.YtgkikkabmcihhaaGreatDoorWit
import Derived.ChangeMaps5
namespace Go.Proofs.YtgkikkabmcihhaaGreatDoor.sizes
open Go.ChangeShapes Go.WideShapes Go.ChangeAt Go.RowKit Go.Deep Kp
open Go.ChangeMaps (open_string)

theorem named : Tryz.pinned.checked.prog.funcNamed Rows.timberSizesRow.func = some 7 := by kernel_rfl
theorem facts : joinedFacts Tryz.pinned.checked.prog 7 Tryz.f7 (OpenSpec.ofChange Rows.timberSizesSpec).bare Rows.timberSizesRow = true := by kernel_rfl
theorem inst : Tryz.f7.isInstance Tryz.pinned.checked.prog Rows.timberSizesRow.origin Rows.timberSizesRow.targs := of_decide_eq_true (by kernel_rfl)
theorem wrap : Tryz.f7.isWrapper Tryz.pinned.checked.prog Rows.timberSizesRow.wrapper Rows.timberSizesRow.mainSum := by unfold Func.isWrapper; first | (rw [if_pos (by decide +kernel)]; kernel_rfl) | (rw [if_neg (by decide +kernel)]; exact ⟨rfl, rfl⟩)

end Go.Proofs.YtgkikkabmcihhaaGreatDoor.sizes
