/-
  DERIVED. GIVEN WITH THE SEED: THE CARDS: each row of YtdecodpgdainiaaGreatDoorRows.lean that lists a variable, with what it lists TIED to the program's text (the seventh form; the later family's looks); each row that meets fmt, with fmt's text TOLD by the authors' own Lean function (tested against real Go, not proved from fmt's source: count such statements apart). THE CARD IS WHAT COUNTS. Prove the row's statement (the work); the ties are given (YtdecodpgdainiaaGreatDoorTie.lean); close each card by the builder's one call (the guide's Derived/Test/ToyasCard.lean, 'card_holds'). Laid BY PROGRAM, IN A SANDBOX (cutbox-door.mjs). By AI agents, Wed Nov 11 2026. No macro, syntax, notation, axiom, sorry.
-/
import Derived.Test.YtdecodpgdainiaaGreatDoorRows
import GoSem.ClaimSeven
namespace Go.Proofs.YtdecodpgdainiaaGreatDoor
namespace Rows

/-- THE TIED CARD OF 'kingpostlaw35.JointHousings'. -/
def jointHousingsCard : Claim7 := { stood := { row := jointHousingsRow, standIns := [], harness := (true, "18ac51357ff0bd618d88be33226b816bf97283712d83b326fa9938c4035cdf1c"), looks := true }, kinds := [], alts := [], laidByText := true, laidKinds := [.data, .data, .data, .data, .sentinel, .sentinel, .data, .data, .data, .pinned], laidTests := true, laidLooks := .later }
def JointHousingsCardSaid : Prop := Claim7.holds Tryz.pinned (.plain (OpenSpec.ofChange jointHousingsSpec)) jointHousingsCard

/-- THE SECOND FORM's CARD OF 'kingpostlaw35.JointHousings'. -/
def jointHousingsUptoCard : Claim7 := { stood := { row := jointHousingsUptoRow, standIns := [], harness := (true, "18ac51357ff0bd618d88be33226b816bf97283712d83b326fa9938c4035cdf1c"), looks := true }, kinds := [], alts := [], laidByText := true, laidKinds := [.data, .data, .data, .data, .sentinel, .sentinel, .data, .data, .data, .pinned], laidTests := true, laidLooks := .later }
def JointHousingsUptoCardSaid : Prop := Claim7.holds Tryz.pinned (.plain (OpenSpec.upto jointHousingsSpec)) jointHousingsUptoCard
end Rows
end Go.Proofs.YtdecodpgdainiaaGreatDoor
