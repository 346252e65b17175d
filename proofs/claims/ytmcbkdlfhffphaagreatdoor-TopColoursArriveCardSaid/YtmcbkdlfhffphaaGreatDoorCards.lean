/-
  DERIVED. GIVEN WITH THE SEED: THE CARDS: each row of YtmcbkdlfhffphaaGreatDoorRows.lean that lists a variable, with what it lists TIED to the program's text (the seventh form; the later family's looks); each row that meets fmt, with fmt's text TOLD by the authors' own Lean function (tested against real Go, not proved from fmt's source: count such statements apart). THE CARD IS WHAT COUNTS. Prove the row's statement (the work); the ties are given (YtmcbkdlfhffphaaGreatDoorTie.lean); close each card by the builder's one call (the guide's Derived/Test/ToyasCard.lean, 'card_holds'). Laid BY PROGRAM, IN A SANDBOX (cutbox-door.mjs). By AI agents, Wed Nov 11 2026. No macro, syntax, notation, axiom, sorry.
-/
import Derived.Test.YtmcbkdlfhffphaaGreatDoorRows
import GoSem.ClaimSeven
namespace Go.Proofs.YtmcbkdlfhffphaaGreatDoor
namespace Rows

/-- THE TIED CARD OF 'luminairetop.TopSlotsAreShared'. -/
def topSlotsAreSharedCard : Claim7 := { stood := { row := topSlotsAreSharedRow, standIns := [], harness := (true, "2a6848002a9ad1ea054745b71f9598b1136f1410b382e08801898f835ce1cbca"), looks := true }, kinds := [], alts := [], laidByText := true, laidKinds := [.data, .data, .data, .data, .sentinel, .sentinel, .pinned], laidTests := true, laidLooks := .later }
def TopSlotsAreSharedCardSaid : Prop := Claim7.holds Tryz.pinned (.plain (OpenSpec.ofChange topSlotsAreSharedSpec)) topSlotsAreSharedCard

/-- THE TIED CARD OF 'luminairetop.TopColoursArrive'. -/
def topColoursArriveCard : Claim7 := { stood := { row := topColoursArriveRow, standIns := [], harness := (true, "2a6848002a9ad1ea054745b71f9598b1136f1410b382e08801898f835ce1cbca"), looks := true }, kinds := [], alts := [], laidByText := true, laidKinds := [.data, .data, .data, .data, .sentinel, .sentinel, .pinned], laidTests := true, laidLooks := .later }
def TopColoursArriveCardSaid : Prop := Claim7.holds Tryz.pinned (.plain (OpenSpec.ofChange topColoursArriveSpec)) topColoursArriveCard

/-- THE SECOND FORM's CARD OF 'luminairetop.TopSlotsAreShared'. -/
def topSlotsAreSharedUptoCard : Claim7 := { stood := { row := topSlotsAreSharedUptoRow, standIns := [], harness := (true, "2a6848002a9ad1ea054745b71f9598b1136f1410b382e08801898f835ce1cbca"), looks := true }, kinds := [], alts := [], laidByText := true, laidKinds := [.data, .data, .data, .data, .sentinel, .sentinel, .pinned], laidTests := true, laidLooks := .later }
def TopSlotsAreSharedUptoCardSaid : Prop := Claim7.holds Tryz.pinned (.plain (OpenSpec.upto topSlotsAreSharedSpec)) topSlotsAreSharedUptoCard

/-- THE SECOND FORM's CARD OF 'luminairetop.TopColoursArrive'. -/
def topColoursArriveUptoCard : Claim7 := { stood := { row := topColoursArriveUptoRow, standIns := [], harness := (true, "2a6848002a9ad1ea054745b71f9598b1136f1410b382e08801898f835ce1cbca"), looks := true }, kinds := [], alts := [], laidByText := true, laidKinds := [.data, .data, .data, .data, .sentinel, .sentinel, .pinned], laidTests := true, laidLooks := .later }
def TopColoursArriveUptoCardSaid : Prop := Claim7.holds Tryz.pinned (.plain (OpenSpec.upto topColoursArriveSpec)) topColoursArriveUptoCard
end Rows
end Go.Proofs.YtmcbkdlfhffphaaGreatDoor
