/-
  DERIVED. GIVEN WITH THE SEED: THE CARDS: each row of YtbfikenbgfnfiaaGreatDoorRows.lean that lists a variable, with what it lists TIED to the program's text (the seventh form; the later family's looks); each row that meets fmt, with fmt's text TOLD by the authors' own Lean function (tested against real Go, not proved from fmt's source: count such statements apart). THE CARD IS WHAT COUNTS. Prove the row's statement (the work); the ties are given (YtbfikenbgfnfiaaGreatDoorTie.lean); close each card by the builder's one call (the guide's Derived/Test/ToyasCard.lean, 'card_holds'). Laid BY PROGRAM, IN A SANDBOX (cutbox-door.mjs). By AI agents, Wed Nov 11 2026. No macro, syntax, notation, axiom, sorry.
-/
import Derived.Test.YtbfikenbgfnfiaaGreatDoorRows
import GoSem.ClaimSeven
namespace Go.Proofs.YtbfikenbgfnfiaaGreatDoor
namespace Rows

/-- THE TIED CARD OF 'luminairelaw13.UniverseMakes'. -/
def universeMakesCard : Claim7 := { stood := { row := universeMakesRow, standIns := [], harness := (true, "3c05e574faa5d82a202099566cff212858ae0478407842340229b14b3e1e5c6e"), looks := true }, kinds := [], alts := [], laidByText := true, laidKinds := [.data, .data, .data, .data, .sentinel, .sentinel, .pinned], laidTests := true, laidLooks := .later }
def UniverseMakesCardSaid : Prop := Claim7.holds Tryz.pinned (.plain (OpenSpec.ofChange universeMakesSpec)) universeMakesCard

/-- THE TIED CARD OF 'luminairelaw13.UniverseDepends'. -/
def universeDependsCard : Claim7 := { stood := { row := universeDependsRow, standIns := [], harness := (true, "3c05e574faa5d82a202099566cff212858ae0478407842340229b14b3e1e5c6e"), looks := true }, kinds := [], alts := [], laidByText := true, laidKinds := [.data, .data, .data, .data, .sentinel, .sentinel, .pinned], laidTests := true, laidLooks := .later }
def UniverseDependsCardSaid : Prop := Claim7.holds Tryz.pinned (.plain (OpenSpec.ofChange universeDependsSpec)) universeDependsCard

/-- THE TIED CARD OF 'luminairelaw13.UniverseReturns'. -/
def universeReturnsCard : Claim7 := { stood := { row := universeReturnsRow, standIns := [], harness := (true, "3c05e574faa5d82a202099566cff212858ae0478407842340229b14b3e1e5c6e"), looks := true }, kinds := [], alts := [], laidByText := true, laidKinds := [.data, .data, .data, .data, .sentinel, .sentinel, .pinned], laidTests := true, laidLooks := .later }
def UniverseReturnsCardSaid : Prop := Claim7.holds Tryz.pinned (.plain (OpenSpec.ofChange universeReturnsSpec)) universeReturnsCard

/-- THE TIED CARD OF 'luminairelaw13.UniverseInside'. -/
def universeInsideCard : Claim7 := { stood := { row := universeInsideRow, standIns := [], harness := (true, "3c05e574faa5d82a202099566cff212858ae0478407842340229b14b3e1e5c6e"), looks := true }, kinds := [], alts := [], laidByText := true, laidKinds := [.data, .data, .data, .data, .sentinel, .sentinel, .pinned], laidTests := true, laidLooks := .later }
def UniverseInsideCardSaid : Prop := Claim7.holds Tryz.pinned (.plain (OpenSpec.ofChange universeInsideSpec)) universeInsideCard

/-- THE TIED CARD OF 'luminairelaw13.UniverseRises'. -/
def universeRisesCard : Claim7 := { stood := { row := universeRisesRow, standIns := [], harness := (true, "3c05e574faa5d82a202099566cff212858ae0478407842340229b14b3e1e5c6e"), looks := true }, kinds := [], alts := [], laidByText := true, laidKinds := [.data, .data, .data, .data, .sentinel, .sentinel, .pinned], laidTests := true, laidLooks := .later }
def UniverseRisesCardSaid : Prop := Claim7.holds Tryz.pinned (.plain (OpenSpec.ofChange universeRisesSpec)) universeRisesCard

/-- THE TIED CARD OF 'luminairelaw13.UniverseReads'. -/
def universeReadsCard : Claim7 := { stood := { row := universeReadsRow, standIns := [], harness := (true, "3c05e574faa5d82a202099566cff212858ae0478407842340229b14b3e1e5c6e"), looks := true }, kinds := [], alts := [], laidByText := true, laidKinds := [.data, .data, .data, .data, .sentinel, .sentinel, .pinned], laidTests := true, laidLooks := .later }
def UniverseReadsCardSaid : Prop := Claim7.holds Tryz.pinned (.plain (OpenSpec.ofChange universeReadsSpec)) universeReadsCard

/-- THE TIED CARD OF 'luminairetop.TopBytesAreTheirs'. -/
def topBytesAreTheirsCard : Claim7 := { stood := { row := topBytesAreTheirsRow, standIns := [], harness := (true, "3c05e574faa5d82a202099566cff212858ae0478407842340229b14b3e1e5c6e"), looks := true }, kinds := [], alts := [], laidByText := true, laidKinds := [.data, .data, .data, .data, .sentinel, .sentinel, .pinned], laidTests := true, laidLooks := .later }
def TopBytesAreTheirsCardSaid : Prop := Claim7.holds Tryz.pinned (.plain (OpenSpec.ofChange topBytesAreTheirsSpec)) topBytesAreTheirsCard

/-- THE TIED CARD OF 'luminairetop.TopCurvesAreUndone'. -/
def topCurvesAreUndoneCard : Claim7 := { stood := { row := topCurvesAreUndoneRow, standIns := [], harness := (true, "3c05e574faa5d82a202099566cff212858ae0478407842340229b14b3e1e5c6e"), looks := true }, kinds := [], alts := [], laidByText := true, laidKinds := [.data, .data, .data, .data, .sentinel, .sentinel, .pinned], laidTests := true, laidLooks := .later }
def TopCurvesAreUndoneCardSaid : Prop := Claim7.holds Tryz.pinned (.plain (OpenSpec.ofChange topCurvesAreUndoneSpec)) topCurvesAreUndoneCard

/-- THE SECOND FORM's CARD OF 'luminairelaw13.UniverseMakes'. -/
def universeMakesUptoCard : Claim7 := { stood := { row := universeMakesUptoRow, standIns := [], harness := (true, "3c05e574faa5d82a202099566cff212858ae0478407842340229b14b3e1e5c6e"), looks := true }, kinds := [], alts := [], laidByText := true, laidKinds := [.data, .data, .data, .data, .sentinel, .sentinel, .pinned], laidTests := true, laidLooks := .later }
def UniverseMakesUptoCardSaid : Prop := Claim7.holds Tryz.pinned (.plain (OpenSpec.upto universeMakesSpec)) universeMakesUptoCard

/-- THE SECOND FORM's CARD OF 'luminairelaw13.UniverseDepends'. -/
def universeDependsUptoCard : Claim7 := { stood := { row := universeDependsUptoRow, standIns := [], harness := (true, "3c05e574faa5d82a202099566cff212858ae0478407842340229b14b3e1e5c6e"), looks := true }, kinds := [], alts := [], laidByText := true, laidKinds := [.data, .data, .data, .data, .sentinel, .sentinel, .pinned], laidTests := true, laidLooks := .later }
def UniverseDependsUptoCardSaid : Prop := Claim7.holds Tryz.pinned (.plain (OpenSpec.upto universeDependsSpec)) universeDependsUptoCard

/-- THE SECOND FORM's CARD OF 'luminairelaw13.UniverseReturns'. -/
def universeReturnsUptoCard : Claim7 := { stood := { row := universeReturnsUptoRow, standIns := [], harness := (true, "3c05e574faa5d82a202099566cff212858ae0478407842340229b14b3e1e5c6e"), looks := true }, kinds := [], alts := [], laidByText := true, laidKinds := [.data, .data, .data, .data, .sentinel, .sentinel, .pinned], laidTests := true, laidLooks := .later }
def UniverseReturnsUptoCardSaid : Prop := Claim7.holds Tryz.pinned (.plain (OpenSpec.upto universeReturnsSpec)) universeReturnsUptoCard

/-- THE SECOND FORM's CARD OF 'luminairelaw13.UniverseInside'. -/
def universeInsideUptoCard : Claim7 := { stood := { row := universeInsideUptoRow, standIns := [], harness := (true, "3c05e574faa5d82a202099566cff212858ae0478407842340229b14b3e1e5c6e"), looks := true }, kinds := [], alts := [], laidByText := true, laidKinds := [.data, .data, .data, .data, .sentinel, .sentinel, .pinned], laidTests := true, laidLooks := .later }
def UniverseInsideUptoCardSaid : Prop := Claim7.holds Tryz.pinned (.plain (OpenSpec.upto universeInsideSpec)) universeInsideUptoCard

/-- THE SECOND FORM's CARD OF 'luminairelaw13.UniverseRises'. -/
def universeRisesUptoCard : Claim7 := { stood := { row := universeRisesUptoRow, standIns := [], harness := (true, "3c05e574faa5d82a202099566cff212858ae0478407842340229b14b3e1e5c6e"), looks := true }, kinds := [], alts := [], laidByText := true, laidKinds := [.data, .data, .data, .data, .sentinel, .sentinel, .pinned], laidTests := true, laidLooks := .later }
def UniverseRisesUptoCardSaid : Prop := Claim7.holds Tryz.pinned (.plain (OpenSpec.upto universeRisesSpec)) universeRisesUptoCard

/-- THE SECOND FORM's CARD OF 'luminairelaw13.UniverseReads'. -/
def universeReadsUptoCard : Claim7 := { stood := { row := universeReadsUptoRow, standIns := [], harness := (true, "3c05e574faa5d82a202099566cff212858ae0478407842340229b14b3e1e5c6e"), looks := true }, kinds := [], alts := [], laidByText := true, laidKinds := [.data, .data, .data, .data, .sentinel, .sentinel, .pinned], laidTests := true, laidLooks := .later }
def UniverseReadsUptoCardSaid : Prop := Claim7.holds Tryz.pinned (.plain (OpenSpec.upto universeReadsSpec)) universeReadsUptoCard

/-- THE SECOND FORM's CARD OF 'luminairetop.TopBytesAreTheirs'. -/
def topBytesAreTheirsUptoCard : Claim7 := { stood := { row := topBytesAreTheirsUptoRow, standIns := [], harness := (true, "3c05e574faa5d82a202099566cff212858ae0478407842340229b14b3e1e5c6e"), looks := true }, kinds := [], alts := [], laidByText := true, laidKinds := [.data, .data, .data, .data, .sentinel, .sentinel, .pinned], laidTests := true, laidLooks := .later }
def TopBytesAreTheirsUptoCardSaid : Prop := Claim7.holds Tryz.pinned (.plain (OpenSpec.upto topBytesAreTheirsSpec)) topBytesAreTheirsUptoCard

/-- THE SECOND FORM's CARD OF 'luminairetop.TopCurvesAreUndone'. -/
def topCurvesAreUndoneUptoCard : Claim7 := { stood := { row := topCurvesAreUndoneUptoRow, standIns := [], harness := (true, "3c05e574faa5d82a202099566cff212858ae0478407842340229b14b3e1e5c6e"), looks := true }, kinds := [], alts := [], laidByText := true, laidKinds := [.data, .data, .data, .data, .sentinel, .sentinel, .pinned], laidTests := true, laidLooks := .later }
def TopCurvesAreUndoneUptoCardSaid : Prop := Claim7.holds Tryz.pinned (.plain (OpenSpec.upto topCurvesAreUndoneSpec)) topCurvesAreUndoneUptoCard
end Rows
end Go.Proofs.YtbfikenbgfnfiaaGreatDoor
