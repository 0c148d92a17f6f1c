/-
  strings.Builder's WriteString once more, with what it leaves alone.
-/
import Derived.Test.YtohlpeicpoaanaaGreatDoorLib
namespace Go.Proofs.YtohlpeicpoaanaaGreatDoor
open Go.RowKit Kp
theorem builder_copyCheck2 (B b:Nat) (bs:List Value) (w:World) (h:Lib.IsBuilder 98 5 B b bs w) :
  Calls Tryz.prog 81 #[.pointer (some ⟨b,0,none⟩)] w fun e w'=>e=.returned (.tuple #[])∧(Lib.BuilderAt 98 5 B b (.pointer (some ⟨b,0,none⟩)) bs w'∧Below B w w'∧Hid (∀ k,k≠b→w'.heap[k]?=w.heap[k]?)):=by
 rcases h with h | h
 ·refine (copyCheck_fresh b w h.cell0 h.shape h.frozen0).mono ?_
  rintro e w' ⟨rfl,rfl⟩
  exact ⟨rfl,h.used _,(Below.refl B w).setCell (p:=⟨b,0,none⟩) h.1 _,LH (fun k hk=>Below.heap_setCell _ _ _ _ (fun e=>hk e))⟩
 ·refine (copyCheck_used b w h.cell0).mono ?_
  rintro e w' ⟨rfl,rfl⟩
  exact ⟨rfl,h,Below.refl B _,LH (fun k _=>rfl)⟩
end Go.Proofs.YtohlpeicpoaanaaGreatDoor
