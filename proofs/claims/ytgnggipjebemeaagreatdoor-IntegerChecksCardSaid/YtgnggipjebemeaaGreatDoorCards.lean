/-
  DERIVED. GIVEN WITH THE SEED: THE CARDS: each row of YtgnggipjebemeaaGreatDoorRows.lean that lists a variable, with what it lists TIED to the program's text (the seventh form; the later family's looks); each row that meets fmt, with fmt's text TOLD by the authors' own Lean function (tested against real Go, not proved from fmt's source: count such statements apart). THE CARD IS WHAT COUNTS. Prove the row's statement (the work); the ties are given (YtgnggipjebemeaaGreatDoorTie.lean); close each card by the builder's one call (the guide's Derived/Test/ToyasCard.lean, 'card_holds'). Laid BY PROGRAM, IN A SANDBOX (cutbox-door.mjs). By AI agents, Wed Nov 11 2026. No macro, syntax, notation, axiom, sorry.
-/
import Derived.Test.YtgnggipjebemeaaGreatDoorRows
import GoSem.ClaimSeven
namespace Go.Proofs.YtgnggipjebemeaaGreatDoor
namespace Rows

/-- THE TIED CARD OF 'luminairelaw01.IntegerDivides'. -/
def integerDividesCard : Claim7 := { stood := { row := integerDividesRow, standIns := [], harness := (true, "da94b0f823b9b65d38769238b5dbe6098aa8685618d44faf74c6bdbf67105759"), looks := true }, kinds := [], alts := [], laidByText := true, laidKinds := [.data, .data, .data, .data, .sentinel, .sentinel, .pinned], laidTests := true, laidLooks := .later }
def IntegerDividesCardSaid : Prop := Claim7.holds Tryz.pinned (.plain (OpenSpec.ofChange integerDividesSpec)) integerDividesCard

/-- THE TIED CARD OF 'luminairelaw01.IntegerRing'. -/
def integerRingCard : Claim7 := { stood := { row := integerRingRow, standIns := [], harness := (true, "da94b0f823b9b65d38769238b5dbe6098aa8685618d44faf74c6bdbf67105759"), looks := true }, kinds := [], alts := [], laidByText := true, laidKinds := [.data, .data, .data, .data, .sentinel, .sentinel, .pinned], laidTests := true, laidLooks := .later }
def IntegerRingCardSaid : Prop := Claim7.holds Tryz.pinned (.plain (OpenSpec.ofChange integerRingSpec)) integerRingCard

/-- THE TIED CARD OF 'luminairelaw01.IntegerAdds'. -/
def integerAddsCard : Claim7 := { stood := { row := integerAddsRow, standIns := [], harness := (true, "da94b0f823b9b65d38769238b5dbe6098aa8685618d44faf74c6bdbf67105759"), looks := true }, kinds := [], alts := [], laidByText := true, laidKinds := [.data, .data, .data, .data, .sentinel, .sentinel, .pinned], laidTests := true, laidLooks := .later }
def IntegerAddsCardSaid : Prop := Claim7.holds Tryz.pinned (.plain (OpenSpec.ofChange integerAddsSpec)) integerAddsCard

/-- THE TIED CARD OF 'luminairelaw01.IntegerCompares'. -/
def integerComparesCard : Claim7 := { stood := { row := integerComparesRow, standIns := [], harness := (true, "da94b0f823b9b65d38769238b5dbe6098aa8685618d44faf74c6bdbf67105759"), looks := true }, kinds := [], alts := [], laidByText := true, laidKinds := [.data, .data, .data, .data, .sentinel, .sentinel, .pinned], laidTests := true, laidLooks := .later }
def IntegerComparesCardSaid : Prop := Claim7.holds Tryz.pinned (.plain (OpenSpec.ofChange integerComparesSpec)) integerComparesCard

/-- THE TIED CARD OF 'luminairelaw01.IntegerRemains'. -/
def integerRemainsCard : Claim7 := { stood := { row := integerRemainsRow, standIns := [], harness := (true, "da94b0f823b9b65d38769238b5dbe6098aa8685618d44faf74c6bdbf67105759"), looks := true }, kinds := [], alts := [], laidByText := true, laidKinds := [.data, .data, .data, .data, .sentinel, .sentinel, .pinned], laidTests := true, laidLooks := .later }
def IntegerRemainsCardSaid : Prop := Claim7.holds Tryz.pinned (.plain (OpenSpec.ofChange integerRemainsSpec)) integerRemainsCard

/-- THE TIED CARD OF 'luminairelaw01.IntegerOrders'. -/
def integerOrdersCard : Claim7 := { stood := { row := integerOrdersRow, standIns := [], harness := (true, "da94b0f823b9b65d38769238b5dbe6098aa8685618d44faf74c6bdbf67105759"), looks := true }, kinds := [], alts := [], laidByText := true, laidKinds := [.data, .data, .data, .data, .sentinel, .sentinel, .pinned], laidTests := true, laidLooks := .later }
def IntegerOrdersCardSaid : Prop := Claim7.holds Tryz.pinned (.plain (OpenSpec.ofChange integerOrdersSpec)) integerOrdersCard

/-- THE TIED CARD OF 'luminairelaw01.IntegerChecks'. -/
def integerChecksCard : Claim7 := { stood := { row := integerChecksRow, standIns := [], harness := (true, "da94b0f823b9b65d38769238b5dbe6098aa8685618d44faf74c6bdbf67105759"), looks := true }, kinds := [], alts := [], laidByText := true, laidKinds := [.data, .data, .data, .data, .sentinel, .sentinel, .pinned], laidTests := true, laidLooks := .later }
def IntegerChecksCardSaid : Prop := Claim7.holds Tryz.pinned (.plain (OpenSpec.ofChange integerChecksSpec)) integerChecksCard

/-- THE SECOND FORM's CARD OF 'luminairelaw01.IntegerDivides'. -/
def integerDividesUptoCard : Claim7 := { stood := { row := integerDividesUptoRow, standIns := [], harness := (true, "da94b0f823b9b65d38769238b5dbe6098aa8685618d44faf74c6bdbf67105759"), looks := true }, kinds := [], alts := [], laidByText := true, laidKinds := [.data, .data, .data, .data, .sentinel, .sentinel, .pinned], laidTests := true, laidLooks := .later }
def IntegerDividesUptoCardSaid : Prop := Claim7.holds Tryz.pinned (.plain (OpenSpec.upto integerDividesSpec)) integerDividesUptoCard

/-- THE SECOND FORM's CARD OF 'luminairelaw01.IntegerRing'. -/
def integerRingUptoCard : Claim7 := { stood := { row := integerRingUptoRow, standIns := [], harness := (true, "da94b0f823b9b65d38769238b5dbe6098aa8685618d44faf74c6bdbf67105759"), looks := true }, kinds := [], alts := [], laidByText := true, laidKinds := [.data, .data, .data, .data, .sentinel, .sentinel, .pinned], laidTests := true, laidLooks := .later }
def IntegerRingUptoCardSaid : Prop := Claim7.holds Tryz.pinned (.plain (OpenSpec.upto integerRingSpec)) integerRingUptoCard

/-- THE SECOND FORM's CARD OF 'luminairelaw01.IntegerAdds'. -/
def integerAddsUptoCard : Claim7 := { stood := { row := integerAddsUptoRow, standIns := [], harness := (true, "da94b0f823b9b65d38769238b5dbe6098aa8685618d44faf74c6bdbf67105759"), looks := true }, kinds := [], alts := [], laidByText := true, laidKinds := [.data, .data, .data, .data, .sentinel, .sentinel, .pinned], laidTests := true, laidLooks := .later }
def IntegerAddsUptoCardSaid : Prop := Claim7.holds Tryz.pinned (.plain (OpenSpec.upto integerAddsSpec)) integerAddsUptoCard

/-- THE SECOND FORM's CARD OF 'luminairelaw01.IntegerCompares'. -/
def integerComparesUptoCard : Claim7 := { stood := { row := integerComparesUptoRow, standIns := [], harness := (true, "da94b0f823b9b65d38769238b5dbe6098aa8685618d44faf74c6bdbf67105759"), looks := true }, kinds := [], alts := [], laidByText := true, laidKinds := [.data, .data, .data, .data, .sentinel, .sentinel, .pinned], laidTests := true, laidLooks := .later }
def IntegerComparesUptoCardSaid : Prop := Claim7.holds Tryz.pinned (.plain (OpenSpec.upto integerComparesSpec)) integerComparesUptoCard

/-- THE SECOND FORM's CARD OF 'luminairelaw01.IntegerRemains'. -/
def integerRemainsUptoCard : Claim7 := { stood := { row := integerRemainsUptoRow, standIns := [], harness := (true, "da94b0f823b9b65d38769238b5dbe6098aa8685618d44faf74c6bdbf67105759"), looks := true }, kinds := [], alts := [], laidByText := true, laidKinds := [.data, .data, .data, .data, .sentinel, .sentinel, .pinned], laidTests := true, laidLooks := .later }
def IntegerRemainsUptoCardSaid : Prop := Claim7.holds Tryz.pinned (.plain (OpenSpec.upto integerRemainsSpec)) integerRemainsUptoCard

/-- THE SECOND FORM's CARD OF 'luminairelaw01.IntegerOrders'. -/
def integerOrdersUptoCard : Claim7 := { stood := { row := integerOrdersUptoRow, standIns := [], harness := (true, "da94b0f823b9b65d38769238b5dbe6098aa8685618d44faf74c6bdbf67105759"), looks := true }, kinds := [], alts := [], laidByText := true, laidKinds := [.data, .data, .data, .data, .sentinel, .sentinel, .pinned], laidTests := true, laidLooks := .later }
def IntegerOrdersUptoCardSaid : Prop := Claim7.holds Tryz.pinned (.plain (OpenSpec.upto integerOrdersSpec)) integerOrdersUptoCard

/-- THE SECOND FORM's CARD OF 'luminairelaw01.IntegerChecks'. -/
def integerChecksUptoCard : Claim7 := { stood := { row := integerChecksUptoRow, standIns := [], harness := (true, "da94b0f823b9b65d38769238b5dbe6098aa8685618d44faf74c6bdbf67105759"), looks := true }, kinds := [], alts := [], laidByText := true, laidKinds := [.data, .data, .data, .data, .sentinel, .sentinel, .pinned], laidTests := true, laidLooks := .later }
def IntegerChecksUptoCardSaid : Prop := Claim7.holds Tryz.pinned (.plain (OpenSpec.upto integerChecksSpec)) integerChecksUptoCard
end Rows
end Go.Proofs.YtgnggipjebemeaaGreatDoor
