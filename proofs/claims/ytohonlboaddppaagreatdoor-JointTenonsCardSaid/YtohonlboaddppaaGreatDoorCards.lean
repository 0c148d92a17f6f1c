/-
  DERIVED. GIVEN WITH THE SEED: THE CARDS: each row of YtohonlboaddppaaGreatDoorRows.lean that lists a variable, with what it lists TIED to the program's text (the seventh form; the later family's looks); each row that meets fmt, with fmt's text TOLD by the authors' own Lean function (tested against real Go, not proved from fmt's source: count such statements apart). THE CARD IS WHAT COUNTS. Prove the row's statement (the work); the ties are given (YtohonlboaddppaaGreatDoorTie.lean); close each card by the builder's one call (the guide's Derived/Test/ToyasCard.lean, 'card_holds'). Laid BY PROGRAM, IN A SANDBOX (cutbox-door.mjs). By AI agents, Wed Nov 11 2026. No macro, syntax, notation, axiom, sorry.
-/
import Derived.Test.YtohonlboaddppaaGreatDoorRows
import GoSem.ClaimSeven
namespace Go.Proofs.YtohonlboaddppaaGreatDoor
namespace Rows

/-- THE TIED CARD OF 'kingpostlaw35.JointTenons'. -/
def jointTenonsCard : Claim7 := { stood := { row := jointTenonsRow, standIns := [], harness := (true, "2cd90cc2fe7d43fd340c6ea33e947f91654b899b1167d6ba83e72837a5f931ae"), looks := true }, kinds := [], alts := [], laidByText := true, laidKinds := [.data, .data, .data, .data, .sentinel, .sentinel, .data, .data, .pinned], laidTests := true, laidLooks := .later }
def JointTenonsCardSaid : Prop := Claim7.holds Tryz.pinned (.plain (OpenSpec.ofChange jointTenonsSpec)) jointTenonsCard

/-- THE SECOND FORM's CARD OF 'kingpostlaw35.JointTenons'. -/
def jointTenonsUptoCard : Claim7 := { stood := { row := jointTenonsUptoRow, standIns := [], harness := (true, "2cd90cc2fe7d43fd340c6ea33e947f91654b899b1167d6ba83e72837a5f931ae"), looks := true }, kinds := [], alts := [], laidByText := true, laidKinds := [.data, .data, .data, .data, .sentinel, .sentinel, .data, .data, .pinned], laidTests := true, laidLooks := .later }
def JointTenonsUptoCardSaid : Prop := Claim7.holds Tryz.pinned (.plain (OpenSpec.upto jointTenonsSpec)) jointTenonsUptoCard
end Rows
end Go.Proofs.YtohonlboaddppaaGreatDoor
