/-
  DERIVED. GIVEN WITH THE SEED: THE CARDS: each row of YtedijdmenfcjlaaGreatDoorRows.lean that lists a variable, with what it lists TIED to the program's text (the seventh form; the later family's looks); each row that meets fmt, with fmt's text TOLD by the authors' own Lean function (tested against real Go, not proved from fmt's source: count such statements apart). THE CARD IS WHAT COUNTS. Prove the row's statement (the work); the ties are given (YtedijdmenfcjlaaGreatDoorTie.lean); close each card by the builder's one call (the guide's Derived/Test/ToyasCard.lean, 'card_holds'). Laid BY PROGRAM, IN A SANDBOX (cutbox-door.mjs). By AI agents, Wed Nov 11 2026. No macro, syntax, notation, axiom, sorry.
-/
import Derived.Test.YtedijdmenfcjlaaGreatDoorRows
import GoSem.ClaimSeven
namespace Go.Proofs.YtedijdmenfcjlaaGreatDoor
namespace Rows

/-- THE TIED CARD OF 'kingpostlaw32.TruelengthSums'. -/
def truelengthSumsCard : Claim7 := { stood := { row := truelengthSumsRow, standIns := [], harness := (true, "61812e7e56b0deac71cd73650e054a5b94949d8da397d7dfd82cc4141f37bcc6"), looks := true }, kinds := [], alts := [], laidByText := true, laidKinds := [.data, .data, .data, .data, .sentinel, .sentinel, .data, .data, .pinned], laidTests := true, laidLooks := .later }
def TruelengthSumsCardSaid : Prop := Claim7.holds Tryz.pinned (.plain (OpenSpec.ofChange truelengthSumsSpec)) truelengthSumsCard

/-- THE SECOND FORM's CARD OF 'kingpostlaw32.TruelengthSums'. -/
def truelengthSumsUptoCard : Claim7 := { stood := { row := truelengthSumsUptoRow, standIns := [], harness := (true, "61812e7e56b0deac71cd73650e054a5b94949d8da397d7dfd82cc4141f37bcc6"), looks := true }, kinds := [], alts := [], laidByText := true, laidKinds := [.data, .data, .data, .data, .sentinel, .sentinel, .data, .data, .pinned], laidTests := true, laidLooks := .later }
def TruelengthSumsUptoCardSaid : Prop := Claim7.holds Tryz.pinned (.plain (OpenSpec.upto truelengthSumsSpec)) truelengthSumsUptoCard
end Rows
end Go.Proofs.YtedijdmenfcjlaaGreatDoor
