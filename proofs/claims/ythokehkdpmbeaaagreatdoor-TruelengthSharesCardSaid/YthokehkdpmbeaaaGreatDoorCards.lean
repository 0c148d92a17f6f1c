/-
  DERIVED. GIVEN WITH THE SEED: THE CARDS: each row of YthokehkdpmbeaaaGreatDoorRows.lean that lists a variable, with what it lists TIED to the program's text (the seventh form; the later family's looks); each row that meets fmt, with fmt's text TOLD by the authors' own Lean function (tested against real Go, not proved from fmt's source: count such statements apart). THE CARD IS WHAT COUNTS. Prove the row's statement (the work); the ties are given (YthokehkdpmbeaaaGreatDoorTie.lean); close each card by the builder's one call (the guide's Derived/Test/ToyasCard.lean, 'card_holds'). Laid BY PROGRAM, IN A SANDBOX (cutbox-door.mjs). By AI agents, Wed Nov 11 2026. No macro, syntax, notation, axiom, sorry.
-/
import Derived.Test.YthokehkdpmbeaaaGreatDoorRows
import GoSem.ClaimSeven
namespace Go.Proofs.YthokehkdpmbeaaaGreatDoor
namespace Rows

/-- THE TIED CARD OF 'kingpostlaw32.TruelengthMoved'. -/
def truelengthMovedCard : Claim7 := { stood := { row := truelengthMovedRow, standIns := [], harness := (true, "8ddbaab82f9d0ba87913d502ab9ccfcab124dc956cf01eff8f4b09711cd102b3"), looks := true }, kinds := [], alts := [], laidByText := true, laidKinds := [.data, .data, .data, .data, .sentinel, .sentinel, .data, .data, .pinned], laidTests := true, laidLooks := .later }
def TruelengthMovedCardSaid : Prop := Claim7.holds Tryz.pinned (.plain (OpenSpec.ofChange truelengthMovedSpec)) truelengthMovedCard

/-- THE TIED CARD OF 'kingpostlaw32.TruelengthShares'. -/
def truelengthSharesCard : Claim7 := { stood := { row := truelengthSharesRow, standIns := [], harness := (true, "8ddbaab82f9d0ba87913d502ab9ccfcab124dc956cf01eff8f4b09711cd102b3"), looks := true }, kinds := [], alts := [], laidByText := true, laidKinds := [.data, .data, .data, .data, .sentinel, .sentinel, .data, .data, .pinned], laidTests := true, laidLooks := .later }
def TruelengthSharesCardSaid : Prop := Claim7.holds Tryz.pinned (.plain (OpenSpec.ofChange truelengthSharesSpec)) truelengthSharesCard

/-- THE TIED CARD OF 'kingpostlaw32.TruelengthRounds'. -/
def truelengthRoundsCard : Claim7 := { stood := { row := truelengthRoundsRow, standIns := [], harness := (true, "8ddbaab82f9d0ba87913d502ab9ccfcab124dc956cf01eff8f4b09711cd102b3"), looks := true }, kinds := [], alts := [], laidByText := true, laidKinds := [.data, .data, .data, .data, .sentinel, .sentinel, .data, .data, .pinned], laidTests := true, laidLooks := .later }
def TruelengthRoundsCardSaid : Prop := Claim7.holds Tryz.pinned (.plain (OpenSpec.ofChange truelengthRoundsSpec)) truelengthRoundsCard

/-- THE TIED CARD OF 'kingpostlaw32.TruelengthSquares'. -/
def truelengthSquaresCard : Claim7 := { stood := { row := truelengthSquaresRow, standIns := [], harness := (true, "8ddbaab82f9d0ba87913d502ab9ccfcab124dc956cf01eff8f4b09711cd102b3"), looks := true }, kinds := [], alts := [], laidByText := true, laidKinds := [.data, .data, .data, .data, .sentinel, .sentinel, .data, .data, .pinned], laidTests := true, laidLooks := .later }
def TruelengthSquaresCardSaid : Prop := Claim7.holds Tryz.pinned (.plain (OpenSpec.ofChange truelengthSquaresSpec)) truelengthSquaresCard

/-- THE TIED CARD OF 'kingpostlaw32.TruelengthSums'. -/
def truelengthSumsCard : Claim7 := { stood := { row := truelengthSumsRow, standIns := [], harness := (true, "8ddbaab82f9d0ba87913d502ab9ccfcab124dc956cf01eff8f4b09711cd102b3"), looks := true }, kinds := [], alts := [], laidByText := true, laidKinds := [.data, .data, .data, .data, .sentinel, .sentinel, .data, .data, .pinned], laidTests := true, laidLooks := .later }
def TruelengthSumsCardSaid : Prop := Claim7.holds Tryz.pinned (.plain (OpenSpec.ofChange truelengthSumsSpec)) truelengthSumsCard

/-- THE SECOND FORM's CARD OF 'kingpostlaw32.TruelengthMoved'. -/
def truelengthMovedUptoCard : Claim7 := { stood := { row := truelengthMovedUptoRow, standIns := [], harness := (true, "8ddbaab82f9d0ba87913d502ab9ccfcab124dc956cf01eff8f4b09711cd102b3"), looks := true }, kinds := [], alts := [], laidByText := true, laidKinds := [.data, .data, .data, .data, .sentinel, .sentinel, .data, .data, .pinned], laidTests := true, laidLooks := .later }
def TruelengthMovedUptoCardSaid : Prop := Claim7.holds Tryz.pinned (.plain (OpenSpec.upto truelengthMovedSpec)) truelengthMovedUptoCard

/-- THE SECOND FORM's CARD OF 'kingpostlaw32.TruelengthShares'. -/
def truelengthSharesUptoCard : Claim7 := { stood := { row := truelengthSharesUptoRow, standIns := [], harness := (true, "8ddbaab82f9d0ba87913d502ab9ccfcab124dc956cf01eff8f4b09711cd102b3"), looks := true }, kinds := [], alts := [], laidByText := true, laidKinds := [.data, .data, .data, .data, .sentinel, .sentinel, .data, .data, .pinned], laidTests := true, laidLooks := .later }
def TruelengthSharesUptoCardSaid : Prop := Claim7.holds Tryz.pinned (.plain (OpenSpec.upto truelengthSharesSpec)) truelengthSharesUptoCard

/-- THE SECOND FORM's CARD OF 'kingpostlaw32.TruelengthRounds'. -/
def truelengthRoundsUptoCard : Claim7 := { stood := { row := truelengthRoundsUptoRow, standIns := [], harness := (true, "8ddbaab82f9d0ba87913d502ab9ccfcab124dc956cf01eff8f4b09711cd102b3"), looks := true }, kinds := [], alts := [], laidByText := true, laidKinds := [.data, .data, .data, .data, .sentinel, .sentinel, .data, .data, .pinned], laidTests := true, laidLooks := .later }
def TruelengthRoundsUptoCardSaid : Prop := Claim7.holds Tryz.pinned (.plain (OpenSpec.upto truelengthRoundsSpec)) truelengthRoundsUptoCard

/-- THE SECOND FORM's CARD OF 'kingpostlaw32.TruelengthSquares'. -/
def truelengthSquaresUptoCard : Claim7 := { stood := { row := truelengthSquaresUptoRow, standIns := [], harness := (true, "8ddbaab82f9d0ba87913d502ab9ccfcab124dc956cf01eff8f4b09711cd102b3"), looks := true }, kinds := [], alts := [], laidByText := true, laidKinds := [.data, .data, .data, .data, .sentinel, .sentinel, .data, .data, .pinned], laidTests := true, laidLooks := .later }
def TruelengthSquaresUptoCardSaid : Prop := Claim7.holds Tryz.pinned (.plain (OpenSpec.upto truelengthSquaresSpec)) truelengthSquaresUptoCard

/-- THE SECOND FORM's CARD OF 'kingpostlaw32.TruelengthSums'. -/
def truelengthSumsUptoCard : Claim7 := { stood := { row := truelengthSumsUptoRow, standIns := [], harness := (true, "8ddbaab82f9d0ba87913d502ab9ccfcab124dc956cf01eff8f4b09711cd102b3"), looks := true }, kinds := [], alts := [], laidByText := true, laidKinds := [.data, .data, .data, .data, .sentinel, .sentinel, .data, .data, .pinned], laidTests := true, laidLooks := .later }
def TruelengthSumsUptoCardSaid : Prop := Claim7.holds Tryz.pinned (.plain (OpenSpec.upto truelengthSumsSpec)) truelengthSumsUptoCard
end Rows
end Go.Proofs.YthokehkdpmbeaaaGreatDoor
