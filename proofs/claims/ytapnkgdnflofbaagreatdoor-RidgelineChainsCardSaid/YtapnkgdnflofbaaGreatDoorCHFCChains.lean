/-
  What the row's facts say. RidgelineChains answers true for every slice of lines and every int and leaves the slice as it was. The package-level variables that the row lists hold what the program's text lays.
-/
import Derived.Test.YtapnkgdnflofbaaGreatDoorCH06
import Derived.Test.YtapnkgdnflofbaaGreatDoorCH28
namespace Go.Proofs.YtapnkgdnflofbaaGreatDoor.chains
open Go.ChangeShapes Go.WideShapes Go.ChangeAt Go.RowKit Go.Deep Kp
theorem named:Tryz.pinned.checked.prog.funcNamed Rows.ridgelineChainsRow.func=some 3:=by kernel_rfl
theorem and_key : ∀ a b : Bool, a = true → b = true → (a && b) = true := by decide
theorem facts_laid : laidOutB Tryz.pinned.checked.prog = true := by kernel_rfl
theorem facts_maps : mapsRowed Tryz.pinned.checked.prog = true := by kernel_rfl
theorem facts_place : (Rows.ridgelineChainsRow.inPlace == Tryz.pinned.checked.prog.inPlace 3) = true := by kernel_rfl
theorem facts_unf : (Rows.ridgelineChainsRow.unfollowed == Tryz.pinned.checked.prog.unfollowed 3) = true := by kernel_rfl
theorem facts_rec : (Rows.ridgelineChainsRow.recurses == Tryz.pinned.checked.prog.recurses 3) = true := by kernel_rfl
theorem facts_named : (Rows.ridgelineChainsRow.named == Tryz.pinned.checked.prog.varsNamed 3) = true := by kernel_rfl
theorem facts_stops : (Tryz.pinned.checked.prog.stopsHeard) = true := by kernel_rfl
theorem facts_enter : (Tryz.pinned.checked.prog.mayEnter) = true := by kernel_rfl
theorem facts_lifted : (Rows.ridgelineChainsRow.lifted == Tryz.pinned.checked.prog.liftsFinal) = true := by kernel_rfl
theorem facts_keys : (Rows.ridgelineChainsRow.plainKeys == Tryz.pinned.checked.prog.plainKeys) = true := by kernel_rfl
theorem facts_pinned : (Rows.ridgelineChainsRow.pinned == Rows.ridgelineChainsRow.pinnedBy) = true := by kernel_rfl
set_option maxRecDepth 100000 in
theorem facts : joinedFacts Tryz.pinned.checked.prog 3 Tryz.f3 (OpenSpec.ofChange Rows.ridgelineChainsSpec).bare Rows.ridgelineChainsRow = true := by
  unfold joinedFacts
  repeat' (first | with_reducible exact facts_laid | with_reducible exact facts_maps | with_reducible exact facts_place | with_reducible exact facts_unf | with_reducible exact facts_rec | with_reducible exact facts_named | with_reducible exact facts_stops | with_reducible exact facts_enter | with_reducible exact facts_lifted | with_reducible exact facts_keys | with_reducible exact facts_pinned | with_reducible refine and_key _ _ ?_ ?_)
  all_goals kernel_rfl
theorem inst:Tryz.f3.isInstance Tryz.pinned.checked.prog Rows.ridgelineChainsRow.origin Rows.ridgelineChainsRow.targs:=of_decide_eq_true (by kernel_rfl)
theorem wrap:Tryz.f3.isWrapper Tryz.pinned.checked.prog Rows.ridgelineChainsRow.wrapper Rows.ridgelineChainsRow.mainSum:=by unfold Func.isWrapper;first | (rw[if_pos (by decide +kernel)];kernel_rfl)|(rw[if_neg (by decide +kernel)];exact⟨rfl,rfl⟩)
end Go.Proofs.YtapnkgdnflofbaaGreatDoor.chains
