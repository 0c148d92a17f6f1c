/-
  DERIVED. GIVEN WITH THE SEED: THE CARDS: each row of YtagkadlaeeoblaaGreatDoorRows.lean that lists a variable, with what it lists TIED to the program's text (the seventh form; the later family's looks); each row that meets fmt, with fmt's text TOLD by the authors' own Lean function (tested against real Go, not proved from fmt's source: count such statements apart). THE CARD IS WHAT COUNTS. Prove the row's statement (the work); the ties are given (YtagkadlaeeoblaaGreatDoorTie.lean); close each card by the builder's one call (the guide's Derived/Test/ToyasCard.lean, 'card_holds'). Laid BY PROGRAM, IN A SANDBOX (cutbox-door.mjs). By AI agents, Wed Nov 11 2026. No macro, syntax, notation, axiom, sorry.
-/
import Derived.Test.YtagkadlaeeoblaaGreatDoorRows
import GoSem.ClaimSeven
namespace Go.Proofs.YtagkadlaeeoblaaGreatDoor
namespace Rows

/-- THE TIED CARD OF 'kingpostlaw33.BevelMitres'. -/
def bevelMitresCard : Claim7 := { stood := { row := bevelMitresRow, standIns := [], harness := (true, "b7ec0f6481e6b07146e0baa78908ecbc3b480f98097c44c3d137d6e053db1172"), looks := true }, kinds := [], alts := [], laidByText := true, laidKinds := [.data, .data, .data, .data, .sentinel, .sentinel, .data, .data, .data, .funcs, .funcs, .pinned], laidTests := true, laidLooks := .later }
def BevelMitresCardSaid : Prop := Claim7.holds Tryz.pinned (.plain (OpenSpec.ofChange bevelMitresSpec)) bevelMitresCard

/-- THE SECOND FORM's CARD OF 'kingpostlaw33.BevelMitres'. -/
def bevelMitresUptoCard : Claim7 := { stood := { row := bevelMitresUptoRow, standIns := [], harness := (true, "b7ec0f6481e6b07146e0baa78908ecbc3b480f98097c44c3d137d6e053db1172"), looks := true }, kinds := [], alts := [], laidByText := true, laidKinds := [.data, .data, .data, .data, .sentinel, .sentinel, .data, .data, .data, .funcs, .funcs, .pinned], laidTests := true, laidLooks := .later }
def BevelMitresUptoCardSaid : Prop := Claim7.holds Tryz.pinned (.plain (OpenSpec.upto bevelMitresSpec)) bevelMitresUptoCard
end Rows
end Go.Proofs.YtagkadlaeeoblaaGreatDoor
