/-
  DERIVED. GIVEN WITH THE SEED: THE CARDS: each row of YtapnkgdnflofbaaGreatDoorRows.lean that lists a variable, with what it lists TIED to the program's text (the seventh form; the later family's looks); each row that meets fmt, with fmt's text TOLD by the authors' own Lean function (tested against real Go, not proved from fmt's source: count such statements apart). THE CARD IS WHAT COUNTS. Prove the row's statement (the work); the ties are given (YtapnkgdnflofbaaGreatDoorTie.lean); close each card by the builder's one call (the guide's Derived/Test/ToyasCard.lean, 'card_holds'). Laid BY PROGRAM, IN A SANDBOX (cutbox-door.mjs). By AI agents, Wed Nov 11 2026. No macro, syntax, notation, axiom, sorry.
-/
import Derived.Test.YtapnkgdnflofbaaGreatDoorRows
import GoSem.ClaimSeven
namespace Go.Proofs.YtapnkgdnflofbaaGreatDoor
namespace Rows

/-- THE TIED CARD OF 'kingpostlaw21.RidgelineChains'. -/
def ridgelineChainsCard : Claim7 := { stood := { row := ridgelineChainsRow, standIns := [], harness := (true, "00ac91d0645b94ffcde84a2003731453ead72c7209d1df8abc87887936e73992"), looks := true }, kinds := [], alts := [], laidByText := true, laidKinds := [.data, .data, .data, .data, .sentinel, .sentinel, .data, .data, .funcs, .pinned], laidTests := true, laidLooks := .later }
def RidgelineChainsCardSaid : Prop := Claim7.holds Tryz.pinned (.plain (OpenSpec.ofChange ridgelineChainsSpec)) ridgelineChainsCard

/-- THE SECOND FORM's CARD OF 'kingpostlaw21.RidgelineChains'. -/
def ridgelineChainsUptoCard : Claim7 := { stood := { row := ridgelineChainsUptoRow, standIns := [], harness := (true, "00ac91d0645b94ffcde84a2003731453ead72c7209d1df8abc87887936e73992"), looks := true }, kinds := [], alts := [], laidByText := true, laidKinds := [.data, .data, .data, .data, .sentinel, .sentinel, .data, .data, .funcs, .pinned], laidTests := true, laidLooks := .later }
def RidgelineChainsUptoCardSaid : Prop := Claim7.holds Tryz.pinned (.plain (OpenSpec.upto ridgelineChainsSpec)) ridgelineChainsUptoCard
end Rows
end Go.Proofs.YtapnkgdnflofbaaGreatDoor
