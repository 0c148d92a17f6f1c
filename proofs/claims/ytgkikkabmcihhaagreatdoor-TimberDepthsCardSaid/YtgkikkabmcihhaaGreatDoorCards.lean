/-
  DERIVED. GIVEN WITH THE SEED: THE CARDS: each row of YtgkikkabmcihhaaGreatDoorRows.lean that lists a variable, with what it lists TIED to the program's text (the seventh form; the later family's looks); each row that meets fmt, with fmt's text TOLD by the authors' own Lean function (tested against real Go, not proved from fmt's source: count such statements apart). THE CARD IS WHAT COUNTS. Prove the row's statement (the work); the ties are given (YtgkikkabmcihhaaGreatDoorTie.lean); close each card by the builder's one call (the guide's Derived/Test/ToyasCard.lean, 'card_holds'). Laid BY PROGRAM, IN A SANDBOX (cutbox-door.mjs). By AI agents, Wed Nov 11 2026. No macro, syntax, notation, axiom, sorry.
-/
import Derived.Test.YtgkikkabmcihhaaGreatDoorRows
import GoSem.ClaimSeven
namespace Go.Proofs.YtgkikkabmcihhaaGreatDoor
namespace Rows

/-- THE TIED CARD OF 'kingpostlaw36.TimberDepths'. -/
def timberDepthsCard : Claim7 := { stood := { row := timberDepthsRow, standIns := [], harness := (true, "e8fec45d7337ffee43746290662938b290c389eb4d35db15fd9925d14aaaca89"), looks := true }, kinds := [], alts := [], laidByText := true, laidKinds := [.data, .data, .data, .data, .sentinel, .sentinel, .data, .widerDeep, .pinned], laidTests := true, laidLooks := .later }
def TimberDepthsCardSaid : Prop := Claim7.holds Tryz.pinned (.plain (OpenSpec.ofChange timberDepthsSpec)) timberDepthsCard

/-- THE TIED CARD OF 'kingpostlaw36.TimberFinds'. -/
def timberFindsCard : Claim7 := { stood := { row := timberFindsRow, standIns := [], harness := (true, "e8fec45d7337ffee43746290662938b290c389eb4d35db15fd9925d14aaaca89"), looks := true }, kinds := [], alts := [], laidByText := true, laidKinds := [.data, .data, .data, .data, .sentinel, .sentinel, .data, .widerDeep, .pinned], laidTests := true, laidLooks := .later }
def TimberFindsCardSaid : Prop := Claim7.holds Tryz.pinned (.plain (OpenSpec.ofChange timberFindsSpec)) timberFindsCard

/-- THE TIED CARD OF 'kingpostlaw36.TimberOrder'. -/
def timberOrderCard : Claim7 := { stood := { row := timberOrderRow, standIns := [], harness := (true, "e8fec45d7337ffee43746290662938b290c389eb4d35db15fd9925d14aaaca89"), looks := true }, kinds := [], alts := [], laidByText := true, laidKinds := [.data, .data, .data, .data, .sentinel, .sentinel, .data, .widerDeep, .pinned], laidTests := true, laidLooks := .later }
def TimberOrderCardSaid : Prop := Claim7.holds Tryz.pinned (.plain (OpenSpec.ofChange timberOrderSpec)) timberOrderCard

/-- THE TIED CARD OF 'kingpostlaw36.TimberTexts'. -/
def timberTextsCard : Claim7 := { stood := { row := timberTextsRow, standIns := [], harness := (true, "e8fec45d7337ffee43746290662938b290c389eb4d35db15fd9925d14aaaca89"), looks := true }, kinds := [], alts := [], laidByText := true, laidKinds := [.data, .data, .data, .data, .sentinel, .sentinel, .data, .widerDeep, .pinned], laidTests := true, laidLooks := .later }
def TimberTextsCardSaid : Prop := Claim7.holds Tryz.pinned (.plain (OpenSpec.ofChange timberTextsSpec)) timberTextsCard

/-- THE TIED CARD OF 'kingpostlaw36.TimberSizes'. -/
def timberSizesCard : Claim7 := { stood := { row := timberSizesRow, standIns := [], harness := (true, "e8fec45d7337ffee43746290662938b290c389eb4d35db15fd9925d14aaaca89"), looks := true }, kinds := [], alts := [], laidByText := true, laidKinds := [.data, .data, .data, .data, .sentinel, .sentinel, .data, .widerDeep, .pinned], laidTests := true, laidLooks := .later }
def TimberSizesCardSaid : Prop := Claim7.holds Tryz.pinned (.plain (OpenSpec.ofChange timberSizesSpec)) timberSizesCard

/-- THE TIED CARD OF 'kingpostlaw36.TimberSquares'. -/
def timberSquaresCard : Claim7 := { stood := { row := timberSquaresRow, standIns := [], harness := (true, "e8fec45d7337ffee43746290662938b290c389eb4d35db15fd9925d14aaaca89"), looks := true }, kinds := [], alts := [], laidByText := true, laidKinds := [.data, .data, .data, .data, .sentinel, .sentinel, .data, .widerDeep, .pinned], laidTests := true, laidLooks := .later }
def TimberSquaresCardSaid : Prop := Claim7.holds Tryz.pinned (.plain (OpenSpec.ofChange timberSquaresSpec)) timberSquaresCard

/-- THE TIED CARD OF 'kingpostlaw36.TimberSlopes'. -/
def timberSlopesCard : Claim7 := { stood := { row := timberSlopesRow, standIns := [], harness := (true, "e8fec45d7337ffee43746290662938b290c389eb4d35db15fd9925d14aaaca89"), looks := true }, kinds := [], alts := [], laidByText := true, laidKinds := [.data, .data, .data, .data, .sentinel, .sentinel, .data, .data, .widerDeep, .pinned], laidTests := true, laidLooks := .later }
def TimberSlopesCardSaid : Prop := Claim7.holds Tryz.pinned (.plain (OpenSpec.ofChange timberSlopesSpec)) timberSlopesCard

/-- THE TIED CARD OF 'kingpostlaw36.TimberWords'. -/
def timberWordsCard : Claim7 := { stood := { row := timberWordsRow, standIns := [], harness := (true, "e8fec45d7337ffee43746290662938b290c389eb4d35db15fd9925d14aaaca89"), looks := true }, kinds := [], alts := [], laidByText := true, laidKinds := [.data, .data, .data, .data, .sentinel, .sentinel, .data, .widerDeep, .pinned], laidTests := true, laidLooks := .later }
def TimberWordsCardSaid : Prop := Claim7.holds Tryz.pinned (.plain (OpenSpec.ofChange timberWordsSpec)) timberWordsCard

/-- THE SECOND FORM's CARD OF 'kingpostlaw36.TimberDepths'. -/
def timberDepthsUptoCard : Claim7 := { stood := { row := timberDepthsUptoRow, standIns := [], harness := (true, "e8fec45d7337ffee43746290662938b290c389eb4d35db15fd9925d14aaaca89"), looks := true }, kinds := [], alts := [], laidByText := true, laidKinds := [.data, .data, .data, .data, .sentinel, .sentinel, .data, .widerDeep, .pinned], laidTests := true, laidLooks := .later }
def TimberDepthsUptoCardSaid : Prop := Claim7.holds Tryz.pinned (.plain (OpenSpec.upto timberDepthsSpec)) timberDepthsUptoCard

/-- THE SECOND FORM's CARD OF 'kingpostlaw36.TimberFinds'. -/
def timberFindsUptoCard : Claim7 := { stood := { row := timberFindsUptoRow, standIns := [], harness := (true, "e8fec45d7337ffee43746290662938b290c389eb4d35db15fd9925d14aaaca89"), looks := true }, kinds := [], alts := [], laidByText := true, laidKinds := [.data, .data, .data, .data, .sentinel, .sentinel, .data, .widerDeep, .pinned], laidTests := true, laidLooks := .later }
def TimberFindsUptoCardSaid : Prop := Claim7.holds Tryz.pinned (.plain (OpenSpec.upto timberFindsSpec)) timberFindsUptoCard

/-- THE SECOND FORM's CARD OF 'kingpostlaw36.TimberOrder'. -/
def timberOrderUptoCard : Claim7 := { stood := { row := timberOrderUptoRow, standIns := [], harness := (true, "e8fec45d7337ffee43746290662938b290c389eb4d35db15fd9925d14aaaca89"), looks := true }, kinds := [], alts := [], laidByText := true, laidKinds := [.data, .data, .data, .data, .sentinel, .sentinel, .data, .widerDeep, .pinned], laidTests := true, laidLooks := .later }
def TimberOrderUptoCardSaid : Prop := Claim7.holds Tryz.pinned (.plain (OpenSpec.upto timberOrderSpec)) timberOrderUptoCard

/-- THE SECOND FORM's CARD OF 'kingpostlaw36.TimberTexts'. -/
def timberTextsUptoCard : Claim7 := { stood := { row := timberTextsUptoRow, standIns := [], harness := (true, "e8fec45d7337ffee43746290662938b290c389eb4d35db15fd9925d14aaaca89"), looks := true }, kinds := [], alts := [], laidByText := true, laidKinds := [.data, .data, .data, .data, .sentinel, .sentinel, .data, .widerDeep, .pinned], laidTests := true, laidLooks := .later }
def TimberTextsUptoCardSaid : Prop := Claim7.holds Tryz.pinned (.plain (OpenSpec.upto timberTextsSpec)) timberTextsUptoCard

/-- THE SECOND FORM's CARD OF 'kingpostlaw36.TimberSizes'. -/
def timberSizesUptoCard : Claim7 := { stood := { row := timberSizesUptoRow, standIns := [], harness := (true, "e8fec45d7337ffee43746290662938b290c389eb4d35db15fd9925d14aaaca89"), looks := true }, kinds := [], alts := [], laidByText := true, laidKinds := [.data, .data, .data, .data, .sentinel, .sentinel, .data, .widerDeep, .pinned], laidTests := true, laidLooks := .later }
def TimberSizesUptoCardSaid : Prop := Claim7.holds Tryz.pinned (.plain (OpenSpec.upto timberSizesSpec)) timberSizesUptoCard

/-- THE SECOND FORM's CARD OF 'kingpostlaw36.TimberSquares'. -/
def timberSquaresUptoCard : Claim7 := { stood := { row := timberSquaresUptoRow, standIns := [], harness := (true, "e8fec45d7337ffee43746290662938b290c389eb4d35db15fd9925d14aaaca89"), looks := true }, kinds := [], alts := [], laidByText := true, laidKinds := [.data, .data, .data, .data, .sentinel, .sentinel, .data, .widerDeep, .pinned], laidTests := true, laidLooks := .later }
def TimberSquaresUptoCardSaid : Prop := Claim7.holds Tryz.pinned (.plain (OpenSpec.upto timberSquaresSpec)) timberSquaresUptoCard

/-- THE SECOND FORM's CARD OF 'kingpostlaw36.TimberSlopes'. -/
def timberSlopesUptoCard : Claim7 := { stood := { row := timberSlopesUptoRow, standIns := [], harness := (true, "e8fec45d7337ffee43746290662938b290c389eb4d35db15fd9925d14aaaca89"), looks := true }, kinds := [], alts := [], laidByText := true, laidKinds := [.data, .data, .data, .data, .sentinel, .sentinel, .data, .data, .widerDeep, .pinned], laidTests := true, laidLooks := .later }
def TimberSlopesUptoCardSaid : Prop := Claim7.holds Tryz.pinned (.plain (OpenSpec.upto timberSlopesSpec)) timberSlopesUptoCard

/-- THE SECOND FORM's CARD OF 'kingpostlaw36.TimberWords'. -/
def timberWordsUptoCard : Claim7 := { stood := { row := timberWordsUptoRow, standIns := [], harness := (true, "e8fec45d7337ffee43746290662938b290c389eb4d35db15fd9925d14aaaca89"), looks := true }, kinds := [], alts := [], laidByText := true, laidKinds := [.data, .data, .data, .data, .sentinel, .sentinel, .data, .widerDeep, .pinned], laidTests := true, laidLooks := .later }
def TimberWordsUptoCardSaid : Prop := Claim7.holds Tryz.pinned (.plain (OpenSpec.upto timberWordsSpec)) timberWordsUptoCard
end Rows
end Go.Proofs.YtgkikkabmcihhaaGreatDoor
