/-
  Walks: ref04.Same at two lists of one term; timber.Check and Print.
-/
import Derived.Test.YtohonlboaddppaaGreatDoorWL
namespace Go.Proofs.YtohonlboaddppaaGreatDoor
open Go.RowKit Kp
set_option maxHeartbeats 1000000 in
theorem ref04_Same_one (g h c1 c2 : Nat) (s1 s2 : Str) (w : World) (a0 : w.cell? ⟨g, 0, none⟩ = some (.string ⟨s1.toArray⟩)) (a1 : w.cell? ⟨g, 1, none⟩ = some (.string ⟨s2.toArray⟩))
    (b0 : w.cell? ⟨h, 0, none⟩ = some (.string ⟨s1.toArray⟩)) (b1 : w.cell? ⟨h, 1, none⟩ = some (.string ⟨s2.toArray⟩)) :
    Calls Tryz.prog 20 #[.slice (some ⟨g, 0, none⟩) 1 c1, .slice (some ⟨h, 0, none⟩) 1 c2] w fun e w' => e = .returned (.bool true) ∧ ∃ n, w' = w.drewN n := by
  go_enter Tryz.func20, Tryz.ntmps20
  go_wp2
  go_loopw [5] (fun i wr => (i = .int .i64 0 ∨ i = .int .i64 1) ∧ ∃ n, wr = w.drewN n) (fun i _ => 1 - (intOf i).toNat)
  case atStart => exact ⟨.inl rfl, 0, rfl⟩
  case round =>
    obtain ⟨hi, n, rfl⟩ := hrel
    rcases hi with rfl | rfl
    · go_wp2
      try go_quiet (fail)
      go_wp2
      go_roundw
      case rel => exact ⟨.inr rfl, _, rfl⟩
      case measure => simp [intOf]
    · go_wp2
      go_ret
      exact ⟨rfl, _, rfl⟩
end Go.Proofs.YtohonlboaddppaaGreatDoor
