/-
  What the row's facts say. BevelBacking answers true for every five bytes. The package-level variables that the row lists hold what the program's text lays.
-/
import Derived.Test.YthdpnkkddhcacaaGreatDoorBKFOW
namespace Go.Proofs.YthdpnkkddhcacaaGreatDoor.backing
open Go.ChangeShapes Go.WideShapes Go.ChangeAt Go.RowKit Go.Deep Kp
theorem named:Tryz.pinned.checked.prog.funcNamed Rows.bevelBackingRow.func=some 3:=by kernel_rfl
theorem and_key : ∀ a b : Bool, a = true → b = true → (a && b) = true := by decide
theorem facts_laid : laidOutB Tryz.pinned.checked.prog = true := by kernel_rfl
theorem facts_maps : mapsRowed Tryz.pinned.checked.prog = true := by kernel_rfl
theorem facts_place : (Rows.bevelBackingRow.inPlace == Tryz.pinned.checked.prog.inPlace 3) = true := by kernel_rfl
theorem facts_unf : (Rows.bevelBackingRow.unfollowed == Tryz.pinned.checked.prog.unfollowed 3) = true := by kernel_rfl
theorem facts_rec : (Rows.bevelBackingRow.recurses == Tryz.pinned.checked.prog.recurses 3) = true := by kernel_rfl
theorem facts_named : (Rows.bevelBackingRow.named == Tryz.pinned.checked.prog.varsNamed 3) = true := by kernel_rfl
theorem facts_stops : (Tryz.pinned.checked.prog.stopsHeard) = true := by kernel_rfl
theorem facts_enter : (Tryz.pinned.checked.prog.mayEnter) = true := by kernel_rfl
theorem facts_lifted : (Rows.bevelBackingRow.lifted == Tryz.pinned.checked.prog.liftsFinal) = true := by kernel_rfl
theorem facts_keys : (Rows.bevelBackingRow.plainKeys == Tryz.pinned.checked.prog.plainKeys) = true := by kernel_rfl
theorem facts_pinned : (Rows.bevelBackingRow.pinned == Rows.bevelBackingRow.pinnedBy) = true := by kernel_rfl
set_option maxRecDepth 100000 in
theorem facts : joinedFacts Tryz.pinned.checked.prog 3 Tryz.f3 (OpenSpec.ofChange Rows.bevelBackingSpec).bare Rows.bevelBackingRow = true := by
  unfold joinedFacts
  repeat' (first | with_reducible exact facts_laid | with_reducible exact facts_maps | with_reducible exact facts_place | with_reducible exact facts_unf | with_reducible exact facts_rec | with_reducible exact facts_named | with_reducible exact facts_stops | with_reducible exact facts_enter | with_reducible exact facts_lifted | with_reducible exact facts_keys | with_reducible exact facts_pinned | with_reducible refine and_key _ _ ?_ ?_)
  all_goals kernel_rfl
theorem inst:Tryz.f3.isInstance Tryz.pinned.checked.prog Rows.bevelBackingRow.origin Rows.bevelBackingRow.targs:=of_decide_eq_true (by kernel_rfl)
theorem wrap:Tryz.f3.isWrapper Tryz.pinned.checked.prog Rows.bevelBackingRow.wrapper Rows.bevelBackingRow.mainSum:=by unfold Func.isWrapper;first | (rw[if_pos (by decide +kernel)];kernel_rfl)|(rw[if_neg (by decide +kernel)];exact⟨rfl,rfl⟩)
end Go.Proofs.YthdpnkkddhcacaaGreatDoor.backing
