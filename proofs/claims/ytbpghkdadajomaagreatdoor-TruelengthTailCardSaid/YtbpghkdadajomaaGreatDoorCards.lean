/-
  DERIVED. GIVEN WITH THE SEED: THE CARDS: each row of YtbpghkdadajomaaGreatDoorRows.lean that lists a variable, with what it lists TIED to the program's text (the seventh form; the later family's looks); each row that meets fmt, with fmt's text TOLD by the authors' own Lean function (tested against real Go, not proved from fmt's source: count such statements apart). THE CARD IS WHAT COUNTS. Prove the row's statement (the work); the ties are given (YtbpghkdadajomaaGreatDoorTie.lean); close each card by the builder's one call (the guide's Derived/Test/ToyasCard.lean, 'card_holds'). Laid BY PROGRAM, IN A SANDBOX (cutbox-door.mjs). By AI agents, Wed Nov 11 2026. No macro, syntax, notation, axiom, sorry.
-/
import Derived.Test.YtbpghkdadajomaaGreatDoorRows
import GoSem.ClaimSeven
namespace Go.Proofs.YtbpghkdadajomaaGreatDoor
namespace Rows

/-- THE TIED CARD OF 'kingpostlaw35.JointLeft'. -/
def jointLeftCard : Claim7 := { stood := { row := jointLeftRow, standIns := [], harness := (true, "2988ddc53aefcbdcabf33d8c7c4ea4606a0e074a748e0e34968473b5e30e9544"), looks := true }, kinds := [], alts := [], laidByText := true, laidKinds := [.data, .data, .data, .data, .sentinel, .sentinel, .data, .data, .data, .pinned], laidTests := true, laidLooks := .later }
def JointLeftCardSaid : Prop := Claim7.holds Tryz.pinned (.plain (OpenSpec.ofChange jointLeftSpec)) jointLeftCard

/-- THE TIED CARD OF 'kingpostlaw32.TruelengthTail'. -/
def truelengthTailCard : Claim7 := { stood := { row := truelengthTailRow, standIns := [], harness := (true, "2988ddc53aefcbdcabf33d8c7c4ea4606a0e074a748e0e34968473b5e30e9544"), looks := true }, kinds := [], alts := [], laidByText := true, laidKinds := [.data, .data, .data, .data, .sentinel, .sentinel, .data, .data, .data, .pinned], laidTests := true, laidLooks := .later }
def TruelengthTailCardSaid : Prop := Claim7.holds Tryz.pinned (.plain (OpenSpec.ofChange truelengthTailSpec)) truelengthTailCard

/-- THE SECOND FORM's CARD OF 'kingpostlaw35.JointLeft'. -/
def jointLeftUptoCard : Claim7 := { stood := { row := jointLeftUptoRow, standIns := [], harness := (true, "2988ddc53aefcbdcabf33d8c7c4ea4606a0e074a748e0e34968473b5e30e9544"), looks := true }, kinds := [], alts := [], laidByText := true, laidKinds := [.data, .data, .data, .data, .sentinel, .sentinel, .data, .data, .data, .pinned], laidTests := true, laidLooks := .later }
def JointLeftUptoCardSaid : Prop := Claim7.holds Tryz.pinned (.plain (OpenSpec.upto jointLeftSpec)) jointLeftUptoCard

/-- THE SECOND FORM's CARD OF 'kingpostlaw32.TruelengthTail'. -/
def truelengthTailUptoCard : Claim7 := { stood := { row := truelengthTailUptoRow, standIns := [], harness := (true, "2988ddc53aefcbdcabf33d8c7c4ea4606a0e074a748e0e34968473b5e30e9544"), looks := true }, kinds := [], alts := [], laidByText := true, laidKinds := [.data, .data, .data, .data, .sentinel, .sentinel, .data, .data, .data, .pinned], laidTests := true, laidLooks := .later }
def TruelengthTailUptoCardSaid : Prop := Claim7.holds Tryz.pinned (.plain (OpenSpec.upto truelengthTailSpec)) truelengthTailUptoCard
end Rows
end Go.Proofs.YtbpghkdadajomaaGreatDoor
