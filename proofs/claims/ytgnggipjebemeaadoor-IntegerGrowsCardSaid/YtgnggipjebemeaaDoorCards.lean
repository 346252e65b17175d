/-
  DERIVED. GIVEN WITH THE SEED: THE CARDS: each row of YtgnggipjebemeaaDoorRows.lean that lists a variable, with what it lists TIED to the program's text (the seventh form; the later family's looks); each row that meets fmt, with fmt's text TOLD by the authors' own Lean function (tested against real Go, not proved from fmt's source: count such statements apart). THE CARD IS WHAT COUNTS. Prove the row's statement (the work); the ties are given (YtgnggipjebemeaaDoorTie.lean); close each card by the builder's one call (the guide's Derived/Test/ToyasCard.lean, 'card_holds'). Laid BY PROGRAM, IN A SANDBOX (cutbox-door.mjs). By AI agents, Wed Nov 11 2026. No macro, syntax, notation, axiom, sorry.
-/
import Derived.Test.YtgnggipjebemeaaDoorRows
import GoSem.ClaimSeven
namespace Go.Proofs.YtgnggipjebemeaaDoor
namespace Rows

/-- THE TIED CARD OF 'luminairelaw01.IntegerCommon'. -/
def integerCommonCard : Claim7 := { stood := { row := integerCommonRow, standIns := [], harness := (true, "4c0b0b105ccc16c4903885f46630e3254b3ceebcf4417331549c247688a66a82"), looks := true }, kinds := [], alts := [], laidByText := true, laidKinds := [.data, .data, .data, .data, .sentinel, .sentinel, .pinned], laidTests := true, laidLooks := .later }
def IntegerCommonCardSaid : Prop := Claim7.holds Tryd.pinned (.plain (OpenSpec.ofChange integerCommonSpec)) integerCommonCard

/-- THE TIED CARD OF 'luminairelaw01.IntegerGrows'. -/
def integerGrowsCard : Claim7 := { stood := { row := integerGrowsRow, standIns := [], harness := (true, "4c0b0b105ccc16c4903885f46630e3254b3ceebcf4417331549c247688a66a82"), looks := true }, kinds := [], alts := [], laidByText := true, laidKinds := [.data, .data, .data, .data, .sentinel, .sentinel, .pinned], laidTests := true, laidLooks := .later }
def IntegerGrowsCardSaid : Prop := Claim7.holds Tryd.pinned (.plain (OpenSpec.ofChange integerGrowsSpec)) integerGrowsCard

/-- THE SECOND FORM's CARD OF 'luminairelaw01.IntegerCommon'. -/
def integerCommonUptoCard : Claim7 := { stood := { row := integerCommonUptoRow, standIns := [], harness := (true, "4c0b0b105ccc16c4903885f46630e3254b3ceebcf4417331549c247688a66a82"), looks := true }, kinds := [], alts := [], laidByText := true, laidKinds := [.data, .data, .data, .data, .sentinel, .sentinel, .pinned], laidTests := true, laidLooks := .later }
def IntegerCommonUptoCardSaid : Prop := Claim7.holds Tryd.pinned (.plain (OpenSpec.upto integerCommonSpec)) integerCommonUptoCard

/-- THE SECOND FORM's CARD OF 'luminairelaw01.IntegerGrows'. -/
def integerGrowsUptoCard : Claim7 := { stood := { row := integerGrowsUptoRow, standIns := [], harness := (true, "4c0b0b105ccc16c4903885f46630e3254b3ceebcf4417331549c247688a66a82"), looks := true }, kinds := [], alts := [], laidByText := true, laidKinds := [.data, .data, .data, .data, .sentinel, .sentinel, .pinned], laidTests := true, laidLooks := .later }
def IntegerGrowsUptoCardSaid : Prop := Claim7.holds Tryd.pinned (.plain (OpenSpec.upto integerGrowsSpec)) integerGrowsUptoCard
end Rows
end Go.Proofs.YtgnggipjebemeaaDoor
