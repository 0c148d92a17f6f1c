/-
  DERIVED. GIVEN WITH THE SEED: THE CARDS: each row of YtlbjjkmfcgcodaaGreatDoorRows.lean that lists a variable, with what it lists TIED to the program's text (the seventh form; the later family's looks); each row that meets fmt, with fmt's text TOLD by the authors' own Lean function (tested against real Go, not proved from fmt's source: count such statements apart). THE CARD IS WHAT COUNTS. Prove the row's statement (the work); the ties are given (YtlbjjkmfcgcodaaGreatDoorTie.lean); close each card by the builder's one call (the guide's Derived/Test/ToyasCard.lean, 'card_holds'). Laid BY PROGRAM, IN A SANDBOX (cutbox-door.mjs). By AI agents, Wed Nov 11 2026. No macro, syntax, notation, axiom, sorry.
-/
import Derived.Test.YtlbjjkmfcgcodaaGreatDoorRows
import GoSem.ClaimSeven
namespace Go.Proofs.YtlbjjkmfcgcodaaGreatDoor
namespace Rows

/-- THE TIED CARD OF 'kingpostlaw35.JointBirdsmouth'. -/
def jointBirdsmouthCard : Claim7 := { stood := { row := jointBirdsmouthRow, standIns := [], harness := (true, "7b6251a6ff495c9bc587fa9166c583224e024b744aa829d08b48cfc56f63020d"), looks := true }, kinds := [], alts := [], laidByText := true, laidKinds := [.data, .data, .data, .data, .sentinel, .sentinel, .data, .data, .pinned], laidTests := true, laidLooks := .later }
def JointBirdsmouthCardSaid : Prop := Claim7.holds Tryz.pinned (.plain (OpenSpec.ofChange jointBirdsmouthSpec)) jointBirdsmouthCard

/-- THE TIED CARD OF 'kingpostlaw35.JointRefused'. -/
def jointRefusedCard : Claim7 := { stood := { row := jointRefusedRow, standIns := [], harness := (true, "7b6251a6ff495c9bc587fa9166c583224e024b744aa829d08b48cfc56f63020d"), looks := true }, kinds := [], alts := [], laidByText := true, laidKinds := [.data, .data, .data, .data, .sentinel, .sentinel, .data, .data, .pinned], laidTests := true, laidLooks := .later }
def JointRefusedCardSaid : Prop := Claim7.holds Tryz.pinned (.plain (OpenSpec.ofChange jointRefusedSpec)) jointRefusedCard

/-- THE TIED CARD OF 'kingpostlaw35.JointDeepest'. -/
def jointDeepestCard : Claim7 := { stood := { row := jointDeepestRow, standIns := [], harness := (true, "7b6251a6ff495c9bc587fa9166c583224e024b744aa829d08b48cfc56f63020d"), looks := true }, kinds := [], alts := [], laidByText := true, laidKinds := [.data, .data, .data, .data, .sentinel, .sentinel, .data, .data, .pinned], laidTests := true, laidLooks := .later }
def JointDeepestCardSaid : Prop := Claim7.holds Tryz.pinned (.plain (OpenSpec.ofChange jointDeepestSpec)) jointDeepestCard

/-- THE TIED CARD OF 'kingpostlaw35.JointLeft'. -/
def jointLeftCard : Claim7 := { stood := { row := jointLeftRow, standIns := [], harness := (true, "7b6251a6ff495c9bc587fa9166c583224e024b744aa829d08b48cfc56f63020d"), looks := true }, kinds := [], alts := [], laidByText := true, laidKinds := [.data, .data, .data, .data, .sentinel, .sentinel, .data, .data, .data, .pinned], laidTests := true, laidLooks := .later }
def JointLeftCardSaid : Prop := Claim7.holds Tryz.pinned (.plain (OpenSpec.ofChange jointLeftSpec)) jointLeftCard

/-- THE SECOND FORM's CARD OF 'kingpostlaw35.JointBirdsmouth'. -/
def jointBirdsmouthUptoCard : Claim7 := { stood := { row := jointBirdsmouthUptoRow, standIns := [], harness := (true, "7b6251a6ff495c9bc587fa9166c583224e024b744aa829d08b48cfc56f63020d"), looks := true }, kinds := [], alts := [], laidByText := true, laidKinds := [.data, .data, .data, .data, .sentinel, .sentinel, .data, .data, .pinned], laidTests := true, laidLooks := .later }
def JointBirdsmouthUptoCardSaid : Prop := Claim7.holds Tryz.pinned (.plain (OpenSpec.upto jointBirdsmouthSpec)) jointBirdsmouthUptoCard

/-- THE SECOND FORM's CARD OF 'kingpostlaw35.JointRefused'. -/
def jointRefusedUptoCard : Claim7 := { stood := { row := jointRefusedUptoRow, standIns := [], harness := (true, "7b6251a6ff495c9bc587fa9166c583224e024b744aa829d08b48cfc56f63020d"), looks := true }, kinds := [], alts := [], laidByText := true, laidKinds := [.data, .data, .data, .data, .sentinel, .sentinel, .data, .data, .pinned], laidTests := true, laidLooks := .later }
def JointRefusedUptoCardSaid : Prop := Claim7.holds Tryz.pinned (.plain (OpenSpec.upto jointRefusedSpec)) jointRefusedUptoCard

/-- THE SECOND FORM's CARD OF 'kingpostlaw35.JointDeepest'. -/
def jointDeepestUptoCard : Claim7 := { stood := { row := jointDeepestUptoRow, standIns := [], harness := (true, "7b6251a6ff495c9bc587fa9166c583224e024b744aa829d08b48cfc56f63020d"), looks := true }, kinds := [], alts := [], laidByText := true, laidKinds := [.data, .data, .data, .data, .sentinel, .sentinel, .data, .data, .pinned], laidTests := true, laidLooks := .later }
def JointDeepestUptoCardSaid : Prop := Claim7.holds Tryz.pinned (.plain (OpenSpec.upto jointDeepestSpec)) jointDeepestUptoCard

/-- THE SECOND FORM's CARD OF 'kingpostlaw35.JointLeft'. -/
def jointLeftUptoCard : Claim7 := { stood := { row := jointLeftUptoRow, standIns := [], harness := (true, "7b6251a6ff495c9bc587fa9166c583224e024b744aa829d08b48cfc56f63020d"), looks := true }, kinds := [], alts := [], laidByText := true, laidKinds := [.data, .data, .data, .data, .sentinel, .sentinel, .data, .data, .data, .pinned], laidTests := true, laidLooks := .later }
def JointLeftUptoCardSaid : Prop := Claim7.holds Tryz.pinned (.plain (OpenSpec.upto jointLeftSpec)) jointLeftUptoCard
end Rows
end Go.Proofs.YtlbjjkmfcgcodaaGreatDoor
