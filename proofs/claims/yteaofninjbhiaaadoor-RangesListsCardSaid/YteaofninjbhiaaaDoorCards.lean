/-
  DERIVED. GIVEN WITH THE SEED: THE CARDS: each row of YteaofninjbhiaaaDoorRows.lean that lists a variable, with what it lists TIED to the program's text (the seventh form; the later family's looks); each row that meets fmt, with fmt's text TOLD by the authors' own Lean function (tested against real Go, not proved from fmt's source: count such statements apart). THE CARD IS WHAT COUNTS. Prove the row's statement (the work); the ties are given (YteaofninjbhiaaaDoorTie.lean); close each card by the builder's one call (the guide's Derived/Test/ToyasCard.lean, 'card_holds'). Laid BY PROGRAM, IN A SANDBOX (cutbox-door.mjs). By AI agents, Wed Nov 11 2026. No macro, syntax, notation, axiom, sorry.
-/
import Derived.Test.YteaofninjbhiaaaDoorRows
import GoSem.ClaimSeven
namespace Go.Proofs.YteaofninjbhiaaaDoor
namespace Rows

/-- THE TIED CARD OF 'luminairelaw06.RangesWrites'. -/
def rangesWritesCard : Claim7 := { stood := { row := rangesWritesRow, standIns := [], harness := (true, "95f8087f570e863137aa5f0e827e782aa332fa8d0470308a3f8f825fbe4e9428"), looks := false }, kinds := [], alts := [], laidByText := true, laidKinds := [.data, .data, .data], laidTests := true, laidLooks := .later }
def RangesWritesCardSaid : Prop := Claim7.holds Tryd.pinned (.plain (OpenSpec.ofChange rangesWritesSpec)) rangesWritesCard

/-- THE TIED CARD OF 'luminairelaw06.RangesReturns'. -/
def rangesReturnsCard : Claim7 := { stood := { row := rangesReturnsRow, standIns := [], harness := (true, "95f8087f570e863137aa5f0e827e782aa332fa8d0470308a3f8f825fbe4e9428"), looks := false }, kinds := [], alts := [], laidByText := true, laidKinds := [.data, .data, .data], laidTests := true, laidLooks := .later }
def RangesReturnsCardSaid : Prop := Claim7.holds Tryd.pinned (.plain (OpenSpec.ofChange rangesReturnsSpec)) rangesReturnsCard

/-- THE TIED CARD OF 'luminairelaw06.RangesCombines'. -/
def rangesCombinesCard : Claim7 := { stood := { row := rangesCombinesRow, standIns := [], harness := (true, "95f8087f570e863137aa5f0e827e782aa332fa8d0470308a3f8f825fbe4e9428"), looks := false }, kinds := [], alts := [], laidByText := true, laidKinds := [.data, .data, .data], laidTests := true, laidLooks := .later }
def RangesCombinesCardSaid : Prop := Claim7.holds Tryd.pinned (.plain (OpenSpec.ofChange rangesCombinesSpec)) rangesCombinesCard

/-- THE TIED CARD OF 'luminairelaw06.RangesMembers'. -/
def rangesMembersCard : Claim7 := { stood := { row := rangesMembersRow, standIns := [], harness := (true, "95f8087f570e863137aa5f0e827e782aa332fa8d0470308a3f8f825fbe4e9428"), looks := false }, kinds := [], alts := [], laidByText := true, laidKinds := [.data, .data, .data], laidTests := true, laidLooks := .later }
def RangesMembersCardSaid : Prop := Claim7.holds Tryd.pinned (.plain (OpenSpec.ofChange rangesMembersSpec)) rangesMembersCard

/-- THE TIED CARD OF 'luminairelaw06.RangesChecks'. -/
def rangesChecksCard : Claim7 := { stood := { row := rangesChecksRow, standIns := [], harness := (true, "95f8087f570e863137aa5f0e827e782aa332fa8d0470308a3f8f825fbe4e9428"), looks := false }, kinds := [], alts := [], laidByText := true, laidKinds := [.data, .data, .data], laidTests := true, laidLooks := .later }
def RangesChecksCardSaid : Prop := Claim7.holds Tryd.pinned (.plain (OpenSpec.ofChange rangesChecksSpec)) rangesChecksCard

/-- THE TIED CARD OF 'luminairelaw06.RangesMakes'. -/
def rangesMakesCard : Claim7 := { stood := { row := rangesMakesRow, standIns := [], harness := (true, "95f8087f570e863137aa5f0e827e782aa332fa8d0470308a3f8f825fbe4e9428"), looks := false }, kinds := [], alts := [], laidByText := true, laidKinds := [.data, .data, .data], laidTests := true, laidLooks := .later }
def RangesMakesCardSaid : Prop := Claim7.holds Tryd.pinned (.plain (OpenSpec.ofChange rangesMakesSpec)) rangesMakesCard

/-- THE TIED CARD OF 'luminairelaw06.RangesLists'. -/
def rangesListsCard : Claim7 := { stood := { row := rangesListsRow, standIns := [], harness := (true, "95f8087f570e863137aa5f0e827e782aa332fa8d0470308a3f8f825fbe4e9428"), looks := false }, kinds := [], alts := [], laidByText := true, laidKinds := [.data, .data, .data], laidTests := true, laidLooks := .later }
def RangesListsCardSaid : Prop := Claim7.holds Tryd.pinned (.plain (OpenSpec.ofChange rangesListsSpec)) rangesListsCard

/-- THE SECOND FORM's CARD OF 'luminairelaw06.RangesWrites'. -/
def rangesWritesUptoCard : Claim7 := { stood := { row := rangesWritesUptoRow, standIns := [], harness := (true, "95f8087f570e863137aa5f0e827e782aa332fa8d0470308a3f8f825fbe4e9428"), looks := false }, kinds := [], alts := [], laidByText := true, laidKinds := [.data, .data, .data], laidTests := true, laidLooks := .later }
def RangesWritesUptoCardSaid : Prop := Claim7.holds Tryd.pinned (.plain (OpenSpec.upto rangesWritesSpec)) rangesWritesUptoCard

/-- THE SECOND FORM's CARD OF 'luminairelaw06.RangesReturns'. -/
def rangesReturnsUptoCard : Claim7 := { stood := { row := rangesReturnsUptoRow, standIns := [], harness := (true, "95f8087f570e863137aa5f0e827e782aa332fa8d0470308a3f8f825fbe4e9428"), looks := false }, kinds := [], alts := [], laidByText := true, laidKinds := [.data, .data, .data], laidTests := true, laidLooks := .later }
def RangesReturnsUptoCardSaid : Prop := Claim7.holds Tryd.pinned (.plain (OpenSpec.upto rangesReturnsSpec)) rangesReturnsUptoCard

/-- THE SECOND FORM's CARD OF 'luminairelaw06.RangesCombines'. -/
def rangesCombinesUptoCard : Claim7 := { stood := { row := rangesCombinesUptoRow, standIns := [], harness := (true, "95f8087f570e863137aa5f0e827e782aa332fa8d0470308a3f8f825fbe4e9428"), looks := false }, kinds := [], alts := [], laidByText := true, laidKinds := [.data, .data, .data], laidTests := true, laidLooks := .later }
def RangesCombinesUptoCardSaid : Prop := Claim7.holds Tryd.pinned (.plain (OpenSpec.upto rangesCombinesSpec)) rangesCombinesUptoCard

/-- THE SECOND FORM's CARD OF 'luminairelaw06.RangesMembers'. -/
def rangesMembersUptoCard : Claim7 := { stood := { row := rangesMembersUptoRow, standIns := [], harness := (true, "95f8087f570e863137aa5f0e827e782aa332fa8d0470308a3f8f825fbe4e9428"), looks := false }, kinds := [], alts := [], laidByText := true, laidKinds := [.data, .data, .data], laidTests := true, laidLooks := .later }
def RangesMembersUptoCardSaid : Prop := Claim7.holds Tryd.pinned (.plain (OpenSpec.upto rangesMembersSpec)) rangesMembersUptoCard

/-- THE SECOND FORM's CARD OF 'luminairelaw06.RangesChecks'. -/
def rangesChecksUptoCard : Claim7 := { stood := { row := rangesChecksUptoRow, standIns := [], harness := (true, "95f8087f570e863137aa5f0e827e782aa332fa8d0470308a3f8f825fbe4e9428"), looks := false }, kinds := [], alts := [], laidByText := true, laidKinds := [.data, .data, .data], laidTests := true, laidLooks := .later }
def RangesChecksUptoCardSaid : Prop := Claim7.holds Tryd.pinned (.plain (OpenSpec.upto rangesChecksSpec)) rangesChecksUptoCard

/-- THE SECOND FORM's CARD OF 'luminairelaw06.RangesMakes'. -/
def rangesMakesUptoCard : Claim7 := { stood := { row := rangesMakesUptoRow, standIns := [], harness := (true, "95f8087f570e863137aa5f0e827e782aa332fa8d0470308a3f8f825fbe4e9428"), looks := false }, kinds := [], alts := [], laidByText := true, laidKinds := [.data, .data, .data], laidTests := true, laidLooks := .later }
def RangesMakesUptoCardSaid : Prop := Claim7.holds Tryd.pinned (.plain (OpenSpec.upto rangesMakesSpec)) rangesMakesUptoCard

/-- THE SECOND FORM's CARD OF 'luminairelaw06.RangesLists'. -/
def rangesListsUptoCard : Claim7 := { stood := { row := rangesListsUptoRow, standIns := [], harness := (true, "95f8087f570e863137aa5f0e827e782aa332fa8d0470308a3f8f825fbe4e9428"), looks := false }, kinds := [], alts := [], laidByText := true, laidKinds := [.data, .data, .data], laidTests := true, laidLooks := .later }
def RangesListsUptoCardSaid : Prop := Claim7.holds Tryd.pinned (.plain (OpenSpec.upto rangesListsSpec)) rangesListsUptoCard
end Rows
end Go.Proofs.YteaofninjbhiaaaDoor
