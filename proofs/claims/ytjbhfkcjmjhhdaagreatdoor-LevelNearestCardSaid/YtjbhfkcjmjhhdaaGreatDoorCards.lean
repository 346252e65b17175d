/-
  DERIVED. GIVEN WITH THE SEED: THE CARDS: each row of YtjbhfkcjmjhhdaaGreatDoorRows.lean that lists a variable, with what it lists TIED to the program's text (the seventh form; the later family's looks); each row that meets fmt, with fmt's text TOLD by the authors' own Lean function (tested against real Go, not proved from fmt's source: count such statements apart). THE CARD IS WHAT COUNTS. Prove the row's statement (the work); the ties are given (YtjbhfkcjmjhhdaaGreatDoorTie.lean); close each card by the builder's one call (the guide's Derived/Test/ToyasCard.lean, 'card_holds'). Laid BY PROGRAM, IN A SANDBOX (cutbox-door.mjs). By AI agents, Wed Nov 11 2026. No macro, syntax, notation, axiom, sorry.
-/
import Derived.Test.YtjbhfkcjmjhhdaaGreatDoorRows
import GoSem.ClaimSeven
namespace Go.Proofs.YtjbhfkcjmjhhdaaGreatDoor
namespace Rows

/-- THE TIED CARD OF 'luminairelaw04.LevelPercents'. -/
def levelPercentsCard : Claim7 := { stood := { row := levelPercentsRow, standIns := [], harness := (true, "a3705f77de91121ad3690cd473750cf63f56c5fd481251e259dd121ea00c8e18"), looks := true }, kinds := [], alts := [], laidByText := true, laidKinds := [.data, .data, .data, .data, .sentinel, .sentinel, .pinned], laidTests := true, laidLooks := .later }
def LevelPercentsCardSaid : Prop := Claim7.holds Tryz.pinned (.plain (OpenSpec.ofChange levelPercentsSpec)) levelPercentsCard

/-- THE TIED CARD OF 'luminairelaw04.LevelTexts'. -/
def levelTextsCard : Claim7 := { stood := { row := levelTextsRow, standIns := [], harness := (true, "a3705f77de91121ad3690cd473750cf63f56c5fd481251e259dd121ea00c8e18"), looks := true }, kinds := [], alts := [], laidByText := true, laidKinds := [.data, .data, .data, .data, .sentinel, .sentinel, .pinned], laidTests := true, laidLooks := .later }
def LevelTextsCardSaid : Prop := Claim7.holds Tryz.pinned (.plain (OpenSpec.ofChange levelTextsSpec)) levelTextsCard

/-- THE TIED CARD OF 'luminairelaw04.LevelReads'. -/
def levelReadsCard : Claim7 := { stood := { row := levelReadsRow, standIns := [], harness := (true, "a3705f77de91121ad3690cd473750cf63f56c5fd481251e259dd121ea00c8e18"), looks := true }, kinds := [], alts := [], laidByText := true, laidKinds := [.data, .data, .data, .data, .sentinel, .sentinel, .pinned], laidTests := true, laidLooks := .later }
def LevelReadsCardSaid : Prop := Claim7.holds Tryz.pinned (.plain (OpenSpec.ofChange levelReadsSpec)) levelReadsCard

/-- THE TIED CARD OF 'luminairelaw04.LevelRises'. -/
def levelRisesCard : Claim7 := { stood := { row := levelRisesRow, standIns := [], harness := (true, "a3705f77de91121ad3690cd473750cf63f56c5fd481251e259dd121ea00c8e18"), looks := true }, kinds := [], alts := [], laidByText := true, laidKinds := [.data, .data, .data, .data, .sentinel, .sentinel, .pinned], laidTests := true, laidLooks := .later }
def LevelRisesCardSaid : Prop := Claim7.holds Tryz.pinned (.plain (OpenSpec.ofChange levelRisesSpec)) levelRisesCard

/-- THE TIED CARD OF 'luminairelaw04.LevelRaws'. -/
def levelRawsCard : Claim7 := { stood := { row := levelRawsRow, standIns := [], harness := (true, "a3705f77de91121ad3690cd473750cf63f56c5fd481251e259dd121ea00c8e18"), looks := true }, kinds := [], alts := [], laidByText := true, laidKinds := [.data, .data, .data, .data, .sentinel, .sentinel, .pinned], laidTests := true, laidLooks := .later }
def LevelRawsCardSaid : Prop := Claim7.holds Tryz.pinned (.plain (OpenSpec.ofChange levelRawsSpec)) levelRawsCard

/-- THE TIED CARD OF 'luminairetop.TopDivisionsAreRatios'. -/
def topDivisionsAreRatiosCard : Claim7 := { stood := { row := topDivisionsAreRatiosRow, standIns := [], harness := (true, "a3705f77de91121ad3690cd473750cf63f56c5fd481251e259dd121ea00c8e18"), looks := true }, kinds := [], alts := [], laidByText := true, laidKinds := [.data, .data, .data, .data, .sentinel, .sentinel, .pinned], laidTests := true, laidLooks := .later }
def TopDivisionsAreRatiosCardSaid : Prop := Claim7.holds Tryz.pinned (.plain (OpenSpec.ofChange topDivisionsAreRatiosSpec)) topDivisionsAreRatiosCard

/-- THE TIED CARD OF 'luminairelaw04.LevelNearest'. -/
def levelNearestCard : Claim7 := { stood := { row := levelNearestRow, standIns := [], harness := (true, "a3705f77de91121ad3690cd473750cf63f56c5fd481251e259dd121ea00c8e18"), looks := true }, kinds := [], alts := [], laidByText := true, laidKinds := [.data, .data, .data, .data, .sentinel, .sentinel, .pinned], laidTests := true, laidLooks := .later }
def LevelNearestCardSaid : Prop := Claim7.holds Tryz.pinned (.plain (OpenSpec.ofChange levelNearestSpec)) levelNearestCard

/-- THE TIED CARD OF 'luminairelaw04.LevelBytes'. -/
def levelBytesCard : Claim7 := { stood := { row := levelBytesRow, standIns := [], harness := (true, "a3705f77de91121ad3690cd473750cf63f56c5fd481251e259dd121ea00c8e18"), looks := true }, kinds := [], alts := [], laidByText := true, laidKinds := [.data, .data, .data, .data, .sentinel, .sentinel, .pinned], laidTests := true, laidLooks := .later }
def LevelBytesCardSaid : Prop := Claim7.holds Tryz.pinned (.plain (OpenSpec.ofChange levelBytesSpec)) levelBytesCard

/-- THE TIED CARD OF 'luminairetop.TopRatiosAreAField'. -/
def topRatiosAreAFieldCard : Claim7 := { stood := { row := topRatiosAreAFieldRow, standIns := [], harness := (true, "a3705f77de91121ad3690cd473750cf63f56c5fd481251e259dd121ea00c8e18"), looks := true }, kinds := [], alts := [], laidByText := true, laidKinds := [.data, .data, .data, .data, .sentinel, .sentinel, .pinned], laidTests := true, laidLooks := .later }
def TopRatiosAreAFieldCardSaid : Prop := Claim7.holds Tryz.pinned (.plain (OpenSpec.ofChange topRatiosAreAFieldSpec)) topRatiosAreAFieldCard

/-- THE TIED CARD OF 'luminairelaw04.LevelReturns'. -/
def levelReturnsCard : Claim7 := { stood := { row := levelReturnsRow, standIns := [], harness := (true, "a3705f77de91121ad3690cd473750cf63f56c5fd481251e259dd121ea00c8e18"), looks := true }, kinds := [], alts := [], laidByText := true, laidKinds := [.data, .data, .data, .data, .sentinel, .sentinel, .pinned], laidTests := true, laidLooks := .later }
def LevelReturnsCardSaid : Prop := Claim7.holds Tryz.pinned (.plain (OpenSpec.ofChange levelReturnsSpec)) levelReturnsCard

/-- THE SECOND FORM's CARD OF 'luminairelaw04.LevelPercents'. -/
def levelPercentsUptoCard : Claim7 := { stood := { row := levelPercentsUptoRow, standIns := [], harness := (true, "a3705f77de91121ad3690cd473750cf63f56c5fd481251e259dd121ea00c8e18"), looks := true }, kinds := [], alts := [], laidByText := true, laidKinds := [.data, .data, .data, .data, .sentinel, .sentinel, .pinned], laidTests := true, laidLooks := .later }
def LevelPercentsUptoCardSaid : Prop := Claim7.holds Tryz.pinned (.plain (OpenSpec.upto levelPercentsSpec)) levelPercentsUptoCard

/-- THE SECOND FORM's CARD OF 'luminairelaw04.LevelTexts'. -/
def levelTextsUptoCard : Claim7 := { stood := { row := levelTextsUptoRow, standIns := [], harness := (true, "a3705f77de91121ad3690cd473750cf63f56c5fd481251e259dd121ea00c8e18"), looks := true }, kinds := [], alts := [], laidByText := true, laidKinds := [.data, .data, .data, .data, .sentinel, .sentinel, .pinned], laidTests := true, laidLooks := .later }
def LevelTextsUptoCardSaid : Prop := Claim7.holds Tryz.pinned (.plain (OpenSpec.upto levelTextsSpec)) levelTextsUptoCard

/-- THE SECOND FORM's CARD OF 'luminairelaw04.LevelReads'. -/
def levelReadsUptoCard : Claim7 := { stood := { row := levelReadsUptoRow, standIns := [], harness := (true, "a3705f77de91121ad3690cd473750cf63f56c5fd481251e259dd121ea00c8e18"), looks := true }, kinds := [], alts := [], laidByText := true, laidKinds := [.data, .data, .data, .data, .sentinel, .sentinel, .pinned], laidTests := true, laidLooks := .later }
def LevelReadsUptoCardSaid : Prop := Claim7.holds Tryz.pinned (.plain (OpenSpec.upto levelReadsSpec)) levelReadsUptoCard

/-- THE SECOND FORM's CARD OF 'luminairelaw04.LevelRises'. -/
def levelRisesUptoCard : Claim7 := { stood := { row := levelRisesUptoRow, standIns := [], harness := (true, "a3705f77de91121ad3690cd473750cf63f56c5fd481251e259dd121ea00c8e18"), looks := true }, kinds := [], alts := [], laidByText := true, laidKinds := [.data, .data, .data, .data, .sentinel, .sentinel, .pinned], laidTests := true, laidLooks := .later }
def LevelRisesUptoCardSaid : Prop := Claim7.holds Tryz.pinned (.plain (OpenSpec.upto levelRisesSpec)) levelRisesUptoCard

/-- THE SECOND FORM's CARD OF 'luminairelaw04.LevelRaws'. -/
def levelRawsUptoCard : Claim7 := { stood := { row := levelRawsUptoRow, standIns := [], harness := (true, "a3705f77de91121ad3690cd473750cf63f56c5fd481251e259dd121ea00c8e18"), looks := true }, kinds := [], alts := [], laidByText := true, laidKinds := [.data, .data, .data, .data, .sentinel, .sentinel, .pinned], laidTests := true, laidLooks := .later }
def LevelRawsUptoCardSaid : Prop := Claim7.holds Tryz.pinned (.plain (OpenSpec.upto levelRawsSpec)) levelRawsUptoCard

/-- THE SECOND FORM's CARD OF 'luminairetop.TopDivisionsAreRatios'. -/
def topDivisionsAreRatiosUptoCard : Claim7 := { stood := { row := topDivisionsAreRatiosUptoRow, standIns := [], harness := (true, "a3705f77de91121ad3690cd473750cf63f56c5fd481251e259dd121ea00c8e18"), looks := true }, kinds := [], alts := [], laidByText := true, laidKinds := [.data, .data, .data, .data, .sentinel, .sentinel, .pinned], laidTests := true, laidLooks := .later }
def TopDivisionsAreRatiosUptoCardSaid : Prop := Claim7.holds Tryz.pinned (.plain (OpenSpec.upto topDivisionsAreRatiosSpec)) topDivisionsAreRatiosUptoCard

/-- THE SECOND FORM's CARD OF 'luminairelaw04.LevelNearest'. -/
def levelNearestUptoCard : Claim7 := { stood := { row := levelNearestUptoRow, standIns := [], harness := (true, "a3705f77de91121ad3690cd473750cf63f56c5fd481251e259dd121ea00c8e18"), looks := true }, kinds := [], alts := [], laidByText := true, laidKinds := [.data, .data, .data, .data, .sentinel, .sentinel, .pinned], laidTests := true, laidLooks := .later }
def LevelNearestUptoCardSaid : Prop := Claim7.holds Tryz.pinned (.plain (OpenSpec.upto levelNearestSpec)) levelNearestUptoCard

/-- THE SECOND FORM's CARD OF 'luminairelaw04.LevelBytes'. -/
def levelBytesUptoCard : Claim7 := { stood := { row := levelBytesUptoRow, standIns := [], harness := (true, "a3705f77de91121ad3690cd473750cf63f56c5fd481251e259dd121ea00c8e18"), looks := true }, kinds := [], alts := [], laidByText := true, laidKinds := [.data, .data, .data, .data, .sentinel, .sentinel, .pinned], laidTests := true, laidLooks := .later }
def LevelBytesUptoCardSaid : Prop := Claim7.holds Tryz.pinned (.plain (OpenSpec.upto levelBytesSpec)) levelBytesUptoCard

/-- THE SECOND FORM's CARD OF 'luminairetop.TopRatiosAreAField'. -/
def topRatiosAreAFieldUptoCard : Claim7 := { stood := { row := topRatiosAreAFieldUptoRow, standIns := [], harness := (true, "a3705f77de91121ad3690cd473750cf63f56c5fd481251e259dd121ea00c8e18"), looks := true }, kinds := [], alts := [], laidByText := true, laidKinds := [.data, .data, .data, .data, .sentinel, .sentinel, .pinned], laidTests := true, laidLooks := .later }
def TopRatiosAreAFieldUptoCardSaid : Prop := Claim7.holds Tryz.pinned (.plain (OpenSpec.upto topRatiosAreAFieldSpec)) topRatiosAreAFieldUptoCard

/-- THE SECOND FORM's CARD OF 'luminairelaw04.LevelReturns'. -/
def levelReturnsUptoCard : Claim7 := { stood := { row := levelReturnsUptoRow, standIns := [], harness := (true, "a3705f77de91121ad3690cd473750cf63f56c5fd481251e259dd121ea00c8e18"), looks := true }, kinds := [], alts := [], laidByText := true, laidKinds := [.data, .data, .data, .data, .sentinel, .sentinel, .pinned], laidTests := true, laidLooks := .later }
def LevelReturnsUptoCardSaid : Prop := Claim7.holds Tryz.pinned (.plain (OpenSpec.upto levelReturnsSpec)) levelReturnsUptoCard
end Rows
end Go.Proofs.YtjbhfkcjmjhhdaaGreatDoor
