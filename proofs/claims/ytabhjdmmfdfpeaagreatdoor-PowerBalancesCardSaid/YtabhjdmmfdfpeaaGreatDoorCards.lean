/-
  DERIVED. GIVEN WITH THE SEED: THE CARDS: each row of YtabhjdmmfdfpeaaGreatDoorRows.lean that lists a variable, with what it lists TIED to the program's text (the seventh form; the later family's looks); each row that meets fmt, with fmt's text TOLD by the authors' own Lean function (tested against real Go, not proved from fmt's source: count such statements apart). THE CARD IS WHAT COUNTS. Prove the row's statement (the work); the ties are given (YtabhjdmmfdfpeaaGreatDoorTie.lean); close each card by the builder's one call (the guide's Derived/Test/ToyasCard.lean, 'card_holds'). Laid BY PROGRAM, IN A SANDBOX (cutbox-door.mjs). By AI agents, Wed Nov 11 2026. No macro, syntax, notation, axiom, sorry.
-/
import Derived.Test.YtabhjdmmfdfpeaaGreatDoorRows
import GoSem.ClaimSeven
namespace Go.Proofs.YtabhjdmmfdfpeaaGreatDoor
namespace Rows

/-- THE TIED CARD OF 'luminairelaw59.PowerSpreads'. -/
def powerSpreadsCard : Claim7 := { stood := { row := powerSpreadsRow, standIns := [], harness := (true, "c8318d360e0c024054e6fcf728bc31ca31889c9b1c4374acf87c4bc26a77ea3a"), looks := true }, kinds := [], alts := [], laidByText := true, laidKinds := [.data, .data, .data, .data, .sentinel, .sentinel, .pinned], laidTests := true, laidLooks := .later }
def PowerSpreadsCardSaid : Prop := Claim7.holds Tryz.pinned (.plain (OpenSpec.ofChange powerSpreadsSpec)) powerSpreadsCard

/-- THE TIED CARD OF 'luminairelaw59.PowerAmperes'. -/
def powerAmperesCard : Claim7 := { stood := { row := powerAmperesRow, standIns := [], harness := (true, "c8318d360e0c024054e6fcf728bc31ca31889c9b1c4374acf87c4bc26a77ea3a"), looks := true }, kinds := [], alts := [], laidByText := true, laidKinds := [.data, .data, .data, .data, .sentinel, .sentinel, .pinned], laidTests := true, laidLooks := .later }
def PowerAmperesCardSaid : Prop := Claim7.holds Tryz.pinned (.plain (OpenSpec.ofChange powerAmperesSpec)) powerAmperesCard

/-- THE TIED CARD OF 'luminairelaw59.PowerBalances'. -/
def powerBalancesCard : Claim7 := { stood := { row := powerBalancesRow, standIns := [], harness := (true, "c8318d360e0c024054e6fcf728bc31ca31889c9b1c4374acf87c4bc26a77ea3a"), looks := true }, kinds := [], alts := [], laidByText := true, laidKinds := [.data, .data, .data, .data, .sentinel, .sentinel, .pinned], laidTests := true, laidLooks := .later }
def PowerBalancesCardSaid : Prop := Claim7.holds Tryz.pinned (.plain (OpenSpec.ofChange powerBalancesSpec)) powerBalancesCard

/-- THE TIED CARD OF 'luminairelaw59.PowerHangs'. -/
def powerHangsCard : Claim7 := { stood := { row := powerHangsRow, standIns := [], harness := (true, "c8318d360e0c024054e6fcf728bc31ca31889c9b1c4374acf87c4bc26a77ea3a"), looks := true }, kinds := [], alts := [], laidByText := true, laidKinds := [.data, .data, .data, .data, .sentinel, .sentinel, .pinned], laidTests := true, laidLooks := .later }
def PowerHangsCardSaid : Prop := Claim7.holds Tryz.pinned (.plain (OpenSpec.ofChange powerHangsSpec)) powerHangsCard

/-- THE SECOND FORM's CARD OF 'luminairelaw59.PowerSpreads'. -/
def powerSpreadsUptoCard : Claim7 := { stood := { row := powerSpreadsUptoRow, standIns := [], harness := (true, "c8318d360e0c024054e6fcf728bc31ca31889c9b1c4374acf87c4bc26a77ea3a"), looks := true }, kinds := [], alts := [], laidByText := true, laidKinds := [.data, .data, .data, .data, .sentinel, .sentinel, .pinned], laidTests := true, laidLooks := .later }
def PowerSpreadsUptoCardSaid : Prop := Claim7.holds Tryz.pinned (.plain (OpenSpec.upto powerSpreadsSpec)) powerSpreadsUptoCard

/-- THE SECOND FORM's CARD OF 'luminairelaw59.PowerAmperes'. -/
def powerAmperesUptoCard : Claim7 := { stood := { row := powerAmperesUptoRow, standIns := [], harness := (true, "c8318d360e0c024054e6fcf728bc31ca31889c9b1c4374acf87c4bc26a77ea3a"), looks := true }, kinds := [], alts := [], laidByText := true, laidKinds := [.data, .data, .data, .data, .sentinel, .sentinel, .pinned], laidTests := true, laidLooks := .later }
def PowerAmperesUptoCardSaid : Prop := Claim7.holds Tryz.pinned (.plain (OpenSpec.upto powerAmperesSpec)) powerAmperesUptoCard

/-- THE SECOND FORM's CARD OF 'luminairelaw59.PowerBalances'. -/
def powerBalancesUptoCard : Claim7 := { stood := { row := powerBalancesUptoRow, standIns := [], harness := (true, "c8318d360e0c024054e6fcf728bc31ca31889c9b1c4374acf87c4bc26a77ea3a"), looks := true }, kinds := [], alts := [], laidByText := true, laidKinds := [.data, .data, .data, .data, .sentinel, .sentinel, .pinned], laidTests := true, laidLooks := .later }
def PowerBalancesUptoCardSaid : Prop := Claim7.holds Tryz.pinned (.plain (OpenSpec.upto powerBalancesSpec)) powerBalancesUptoCard

/-- THE SECOND FORM's CARD OF 'luminairelaw59.PowerHangs'. -/
def powerHangsUptoCard : Claim7 := { stood := { row := powerHangsUptoRow, standIns := [], harness := (true, "c8318d360e0c024054e6fcf728bc31ca31889c9b1c4374acf87c4bc26a77ea3a"), looks := true }, kinds := [], alts := [], laidByText := true, laidKinds := [.data, .data, .data, .data, .sentinel, .sentinel, .pinned], laidTests := true, laidLooks := .later }
def PowerHangsUptoCardSaid : Prop := Claim7.holds Tryz.pinned (.plain (OpenSpec.upto powerHangsSpec)) powerHangsUptoCard
end Rows
end Go.Proofs.YtabhjdmmfdfpeaaGreatDoor
