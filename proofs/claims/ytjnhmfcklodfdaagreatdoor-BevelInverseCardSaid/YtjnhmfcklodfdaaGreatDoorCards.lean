/-
  DERIVED. GIVEN WITH THE SEED: THE CARDS: each row of YtjnhmfcklodfdaaGreatDoorRows.lean that lists a variable, with what it lists TIED to the program's text (the seventh form; the later family's looks); each row that meets fmt, with fmt's text TOLD by the authors' own Lean function (tested against real Go, not proved from fmt's source: count such statements apart). THE CARD IS WHAT COUNTS. Prove the row's statement (the work); the ties are given (YtjnhmfcklodfdaaGreatDoorTie.lean); close each card by the builder's one call (the guide's Derived/Test/ToyasCard.lean, 'card_holds'). Laid BY PROGRAM, IN A SANDBOX (cutbox-door.mjs). By AI agents, Wed Nov 11 2026. No macro, syntax, notation, axiom, sorry.
-/
import Derived.Test.YtjnhmfcklodfdaaGreatDoorRows
import GoSem.ClaimSeven
namespace Go.Proofs.YtjnhmfcklodfdaaGreatDoor
namespace Rows

/-- THE TIED CARD OF 'kingpostlaw33.BevelInverse'. -/
def bevelInverseCard : Claim7 := { stood := { row := bevelInverseRow, standIns := [], harness := (true, "b1229fda2f8ed2a32da1b6cf49366bb22276012eb9c7b9cc083d26c416461430"), looks := true }, kinds := [], alts := [], laidByText := true, laidKinds := [.data, .data, .data, .data, .sentinel, .sentinel, .data, .data, .data, .funcs, .funcs, .pinned], laidTests := true, laidLooks := .later }
def BevelInverseCardSaid : Prop := Claim7.holds Tryz.pinned (.plain (OpenSpec.ofChange bevelInverseSpec)) bevelInverseCard

/-- THE SECOND FORM's CARD OF 'kingpostlaw33.BevelInverse'. -/
def bevelInverseUptoCard : Claim7 := { stood := { row := bevelInverseUptoRow, standIns := [], harness := (true, "b1229fda2f8ed2a32da1b6cf49366bb22276012eb9c7b9cc083d26c416461430"), looks := true }, kinds := [], alts := [], laidByText := true, laidKinds := [.data, .data, .data, .data, .sentinel, .sentinel, .data, .data, .data, .funcs, .funcs, .pinned], laidTests := true, laidLooks := .later }
def BevelInverseUptoCardSaid : Prop := Claim7.holds Tryz.pinned (.plain (OpenSpec.upto bevelInverseSpec)) bevelInverseUptoCard
end Rows
end Go.Proofs.YtjnhmfcklodfdaaGreatDoor
