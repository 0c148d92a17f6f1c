/-
  DERIVED. GIVEN WITH THE SEED: THE CARDS: each row of YthdpnkkddhcacaaGreatDoorRows.lean that lists a variable, with what it lists TIED to the program's text (the seventh form; the later family's looks); each row that meets fmt, with fmt's text TOLD by the authors' own Lean function (tested against real Go, not proved from fmt's source: count such statements apart). THE CARD IS WHAT COUNTS. Prove the row's statement (the work); the ties are given (YthdpnkkddhcacaaGreatDoorTie.lean); close each card by the builder's one call (the guide's Derived/Test/ToyasCard.lean, 'card_holds'). Laid BY PROGRAM, IN A SANDBOX (cutbox-door.mjs). By AI agents, Wed Nov 11 2026. No macro, syntax, notation, axiom, sorry.
-/
import Derived.Test.YthdpnkkddhcacaaGreatDoorRows
import GoSem.ClaimSeven
namespace Go.Proofs.YthdpnkkddhcacaaGreatDoor
namespace Rows

/-- THE TIED CARD OF 'kingpostlaw33.BevelBacking'. -/
def bevelBackingCard : Claim7 := { stood := { row := bevelBackingRow, standIns := [], harness := (true, "690c35926b0e1bbccfe5ced73d25db640dc60a39ca033073c28979ce407b2dc9"), looks := true }, kinds := [], alts := [], laidByText := true, laidKinds := [.data, .data, .data, .data, .sentinel, .sentinel, .data, .data, .data, .funcs, .funcs, .pinned], laidTests := true, laidLooks := .later }
def BevelBackingCardSaid : Prop := Claim7.holds Tryz.pinned (.plain (OpenSpec.ofChange bevelBackingSpec)) bevelBackingCard

/-- THE SECOND FORM's CARD OF 'kingpostlaw33.BevelBacking'. -/
def bevelBackingUptoCard : Claim7 := { stood := { row := bevelBackingUptoRow, standIns := [], harness := (true, "690c35926b0e1bbccfe5ced73d25db640dc60a39ca033073c28979ce407b2dc9"), looks := true }, kinds := [], alts := [], laidByText := true, laidKinds := [.data, .data, .data, .data, .sentinel, .sentinel, .data, .data, .data, .funcs, .funcs, .pinned], laidTests := true, laidLooks := .later }
def BevelBackingUptoCardSaid : Prop := Claim7.holds Tryz.pinned (.plain (OpenSpec.upto bevelBackingSpec)) bevelBackingUptoCard
end Rows
end Go.Proofs.YthdpnkkddhcacaaGreatDoor
