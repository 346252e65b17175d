/-
  DERIVED. GIVEN WITH THE SEED: THE CARDS: each row of YtbhkfemebionnaaGreatDoorRows.lean that lists a variable, with what it lists TIED to the program's text (the seventh form; the later family's looks); each row that meets fmt, with fmt's text TOLD by the authors' own Lean function (tested against real Go, not proved from fmt's source: count such statements apart). THE CARD IS WHAT COUNTS. Prove the row's statement (the work); the ties are given (YtbhkfemebionnaaGreatDoorTie.lean); close each card by the builder's one call (the guide's Derived/Test/ToyasCard.lean, 'card_holds'). Laid BY PROGRAM, IN A SANDBOX (cutbox-door.mjs). By AI agents, Wed Nov 11 2026. No macro, syntax, notation, axiom, sorry.
-/
import Derived.Test.YtbhkfemebionnaaGreatDoorRows
import GoSem.ClaimSeven
namespace Go.Proofs.YtbhkfemebionnaaGreatDoor
namespace Rows

/-- THE TIED CARD OF 'luminairetop.TopLooksParts'. -/
def topLooksPartsCard : Claim7 := { stood := { row := topLooksPartsRow, standIns := [], harness := (true, "a62d3067bbce1daa59e2469251933622e6a9275891be88d865cbd07251931137"), looks := true }, kinds := [], alts := [], laidByText := true, laidKinds := [.data, .data, .data, .sentinel, .sentinel], laidTests := true, laidLooks := .later }
def TopLooksPartsCardSaid : Prop := Claim7.holds Tryz.pinned (.plain (OpenSpec.ofChange topLooksPartsSpec)) topLooksPartsCard

/-- THE TIED CARD OF 'luminairetop.TopLooksInsert'. -/
def topLooksInsertCard : Claim7 := { stood := { row := topLooksInsertRow, standIns := [], harness := (true, "a62d3067bbce1daa59e2469251933622e6a9275891be88d865cbd07251931137"), looks := true }, kinds := [], alts := [], laidByText := true, laidKinds := [.data, .data, .data, .sentinel, .sentinel], laidTests := true, laidLooks := .later }
def TopLooksInsertCardSaid : Prop := Claim7.holds Tryz.pinned (.plain (OpenSpec.ofChange topLooksInsertSpec)) topLooksInsertCard

/-- THE SECOND FORM's CARD OF 'luminairetop.TopLooksParts'. -/
def topLooksPartsUptoCard : Claim7 := { stood := { row := topLooksPartsUptoRow, standIns := [], harness := (true, "a62d3067bbce1daa59e2469251933622e6a9275891be88d865cbd07251931137"), looks := true }, kinds := [], alts := [], laidByText := true, laidKinds := [.data, .data, .data, .sentinel, .sentinel], laidTests := true, laidLooks := .later }
def TopLooksPartsUptoCardSaid : Prop := Claim7.holds Tryz.pinned (.plain (OpenSpec.upto topLooksPartsSpec)) topLooksPartsUptoCard

/-- THE SECOND FORM's CARD OF 'luminairetop.TopLooksInsert'. -/
def topLooksInsertUptoCard : Claim7 := { stood := { row := topLooksInsertUptoRow, standIns := [], harness := (true, "a62d3067bbce1daa59e2469251933622e6a9275891be88d865cbd07251931137"), looks := true }, kinds := [], alts := [], laidByText := true, laidKinds := [.data, .data, .data, .sentinel, .sentinel], laidTests := true, laidLooks := .later }
def TopLooksInsertUptoCardSaid : Prop := Claim7.holds Tryz.pinned (.plain (OpenSpec.upto topLooksInsertSpec)) topLooksInsertUptoCard
end Rows
end Go.Proofs.YtbhkfemebionnaaGreatDoor
