/-
  DERIVED. GIVEN WITH THE SEED: THE CARDS: each row of YtohlpeicpoaanaaGreatDoorRows.lean that lists a variable, with what it lists TIED to the program's text (the seventh form; the later family's looks); each row that meets fmt, with fmt's text TOLD by the authors' own Lean function (tested against real Go, not proved from fmt's source: count such statements apart). THE CARD IS WHAT COUNTS. Prove the row's statement (the work); the ties are given (YtohlpeicpoaanaaGreatDoorTie.lean); close each card by the builder's one call (the guide's Derived/Test/ToyasCard.lean, 'card_holds'). Laid BY PROGRAM, IN A SANDBOX (cutbox-door.mjs). By AI agents, Wed Nov 11 2026. No macro, syntax, notation, axiom, sorry.
-/
import Derived.Test.YtohlpeicpoaanaaGreatDoorRows
import GoSem.ClaimSeven
namespace Go.Proofs.YtohlpeicpoaanaaGreatDoor
namespace Rows

/-- THE TIED CARD OF 'kingpostlaw42.CutlistSplits'. -/
def cutlistSplitsCard : Claim7 := { stood := { row := cutlistSplitsRow, standIns := [], harness := (true, "8f830b4902b0db56031052573782a65a430c12e9fc8873583e0d07f66bdffe96"), looks := true }, kinds := [], alts := [], laidByText := true, laidKinds := [.data, .data, .data, .data, .sentinel, .sentinel, .data, .data, .pinned], laidTests := true, laidLooks := .later }
def CutlistSplitsCardSaid : Prop := Claim7.holds Tryz.pinned (.plain (OpenSpec.ofChange cutlistSplitsSpec)) cutlistSplitsCard

/-- THE TIED CARD OF 'kingpostlaw42.CutlistTexts'. -/
def cutlistTextsCard : Claim7 := { stood := { row := cutlistTextsRow, standIns := [], harness := (true, "8f830b4902b0db56031052573782a65a430c12e9fc8873583e0d07f66bdffe96"), looks := true }, kinds := [], alts := [], laidByText := true, laidKinds := [.data, .data, .data, .data, .sentinel, .sentinel, .data, .data, .pinned], laidTests := true, laidLooks := .later }
def CutlistTextsCardSaid : Prop := Claim7.holds Tryz.pinned (.plain (OpenSpec.ofChange cutlistTextsSpec)) cutlistTextsCard

/-- THE TIED CARD OF 'kingpostlaw42.CutlistOthers'. -/
def cutlistOthersCard : Claim7 := { stood := { row := cutlistOthersRow, standIns := [], harness := (true, "8f830b4902b0db56031052573782a65a430c12e9fc8873583e0d07f66bdffe96"), looks := true }, kinds := [], alts := [], laidByText := true, laidKinds := [.data, .data, .data, .data, .sentinel, .sentinel, .data, .data, .pinned], laidTests := true, laidLooks := .later }
def CutlistOthersCardSaid : Prop := Claim7.holds Tryz.pinned (.plain (OpenSpec.ofChange cutlistOthersSpec)) cutlistOthersCard

/-- THE SECOND FORM's CARD OF 'kingpostlaw42.CutlistSplits'. -/
def cutlistSplitsUptoCard : Claim7 := { stood := { row := cutlistSplitsUptoRow, standIns := [], harness := (true, "8f830b4902b0db56031052573782a65a430c12e9fc8873583e0d07f66bdffe96"), looks := true }, kinds := [], alts := [], laidByText := true, laidKinds := [.data, .data, .data, .data, .sentinel, .sentinel, .data, .data, .pinned], laidTests := true, laidLooks := .later }
def CutlistSplitsUptoCardSaid : Prop := Claim7.holds Tryz.pinned (.plain (OpenSpec.upto cutlistSplitsSpec)) cutlistSplitsUptoCard

/-- THE SECOND FORM's CARD OF 'kingpostlaw42.CutlistTexts'. -/
def cutlistTextsUptoCard : Claim7 := { stood := { row := cutlistTextsUptoRow, standIns := [], harness := (true, "8f830b4902b0db56031052573782a65a430c12e9fc8873583e0d07f66bdffe96"), looks := true }, kinds := [], alts := [], laidByText := true, laidKinds := [.data, .data, .data, .data, .sentinel, .sentinel, .data, .data, .pinned], laidTests := true, laidLooks := .later }
def CutlistTextsUptoCardSaid : Prop := Claim7.holds Tryz.pinned (.plain (OpenSpec.upto cutlistTextsSpec)) cutlistTextsUptoCard

/-- THE SECOND FORM's CARD OF 'kingpostlaw42.CutlistOthers'. -/
def cutlistOthersUptoCard : Claim7 := { stood := { row := cutlistOthersUptoRow, standIns := [], harness := (true, "8f830b4902b0db56031052573782a65a430c12e9fc8873583e0d07f66bdffe96"), looks := true }, kinds := [], alts := [], laidByText := true, laidKinds := [.data, .data, .data, .data, .sentinel, .sentinel, .data, .data, .pinned], laidTests := true, laidLooks := .later }
def CutlistOthersUptoCardSaid : Prop := Claim7.holds Tryz.pinned (.plain (OpenSpec.upto cutlistOthersSpec)) cutlistOthersUptoCard
end Rows
end Go.Proofs.YtohlpeicpoaanaaGreatDoor
