/-
  DERIVED. GIVEN WITH THE SEED: THE CARDS: each row of YtfehefafgghopaaGreatDoorRows.lean that lists a variable, with what it lists TIED to the program's text (the seventh form; the later family's looks); each row that meets fmt, with fmt's text TOLD by the authors' own Lean function (tested against real Go, not proved from fmt's source: count such statements apart). THE CARD IS WHAT COUNTS. Prove the row's statement (the work); the ties are given (YtfehefafgghopaaGreatDoorTie.lean); close each card by the builder's one call (the guide's Derived/Test/ToyasCard.lean, 'card_holds'). Laid BY PROGRAM, IN A SANDBOX (cutbox-door.mjs). By AI agents, Wed Nov 11 2026. No macro, syntax, notation, axiom, sorry.
-/
import Derived.Test.YtfehefafgghopaaGreatDoorRows
import GoSem.ClaimSeven
namespace Go.Proofs.YtfehefafgghopaaGreatDoor
namespace Rows

/-- THE TIED CARD OF 'luminairelaw09.CurveBetween'. -/
def curveBetweenCard : Claim7 := { stood := { row := curveBetweenRow, standIns := [], harness := (true, "7e007695281886813cdef532baba37053e1c23961511217fdbbfe3c0579aab35"), looks := true }, kinds := [], alts := [], laidByText := true, laidKinds := [.data, .data, .data, .data, .sentinel, .sentinel, .pinned], laidTests := true, laidLooks := .later }
def CurveBetweenCardSaid : Prop := Claim7.holds Tryz.pinned (.plain (OpenSpec.ofChange curveBetweenSpec)) curveBetweenCard

/-- THE TIED CARD OF 'luminairelaw09.CurveChecks'. -/
def curveChecksCard : Claim7 := { stood := { row := curveChecksRow, standIns := [], harness := (true, "7e007695281886813cdef532baba37053e1c23961511217fdbbfe3c0579aab35"), looks := true }, kinds := [], alts := [], laidByText := true, laidKinds := [.data, .data, .data, .data, .sentinel, .sentinel, .pinned], laidTests := true, laidLooks := .later }
def CurveChecksCardSaid : Prop := Claim7.holds Tryz.pinned (.plain (OpenSpec.ofChange curveChecksSpec)) curveChecksCard

/-- THE TIED CARD OF 'luminairelaw09.CurveReturns'. -/
def curveReturnsCard : Claim7 := { stood := { row := curveReturnsRow, standIns := [], harness := (true, "7e007695281886813cdef532baba37053e1c23961511217fdbbfe3c0579aab35"), looks := true }, kinds := [], alts := [], laidByText := true, laidKinds := [.data, .data, .data, .data, .sentinel, .sentinel, .pinned], laidTests := true, laidLooks := .later }
def CurveReturnsCardSaid : Prop := Claim7.holds Tryz.pinned (.plain (OpenSpec.ofChange curveReturnsSpec)) curveReturnsCard

/-- THE TIED CARD OF 'luminairelaw09.CurveFlips'. -/
def curveFlipsCard : Claim7 := { stood := { row := curveFlipsRow, standIns := [], harness := (true, "7e007695281886813cdef532baba37053e1c23961511217fdbbfe3c0579aab35"), looks := true }, kinds := [], alts := [], laidByText := true, laidKinds := [.data, .data, .data, .data, .sentinel, .sentinel, .pinned], laidTests := true, laidLooks := .later }
def CurveFlipsCardSaid : Prop := Claim7.holds Tryz.pinned (.plain (OpenSpec.ofChange curveFlipsSpec)) curveFlipsCard

/-- THE TIED CARD OF 'luminairelaw09.CurveChanges'. -/
def curveChangesCard : Claim7 := { stood := { row := curveChangesRow, standIns := [], harness := (true, "7e007695281886813cdef532baba37053e1c23961511217fdbbfe3c0579aab35"), looks := true }, kinds := [], alts := [], laidByText := true, laidKinds := [.data, .data, .data, .data, .sentinel, .sentinel, .pinned], laidTests := true, laidLooks := .later }
def CurveChangesCardSaid : Prop := Claim7.holds Tryz.pinned (.plain (OpenSpec.ofChange curveChangesSpec)) curveChangesCard

/-- THE TIED CARD OF 'luminairelaw09.CurveChains'. -/
def curveChainsCard : Claim7 := { stood := { row := curveChainsRow, standIns := [], harness := (true, "7e007695281886813cdef532baba37053e1c23961511217fdbbfe3c0579aab35"), looks := true }, kinds := [], alts := [], laidByText := true, laidKinds := [.data, .data, .data, .data, .sentinel, .sentinel, .pinned], laidTests := true, laidLooks := .later }
def CurveChainsCardSaid : Prop := Claim7.holds Tryz.pinned (.plain (OpenSpec.ofChange curveChainsSpec)) curveChainsCard

/-- THE TIED CARD OF 'luminairelaw09.CurveFollows'. -/
def curveFollowsCard : Claim7 := { stood := { row := curveFollowsRow, standIns := [], harness := (true, "7e007695281886813cdef532baba37053e1c23961511217fdbbfe3c0579aab35"), looks := true }, kinds := [], alts := [], laidByText := true, laidKinds := [.data, .data, .data, .data, .sentinel, .sentinel, .pinned], laidTests := true, laidLooks := .later }
def CurveFollowsCardSaid : Prop := Claim7.holds Tryz.pinned (.plain (OpenSpec.ofChange curveFollowsSpec)) curveFollowsCard

/-- THE SECOND FORM's CARD OF 'luminairelaw09.CurveBetween'. -/
def curveBetweenUptoCard : Claim7 := { stood := { row := curveBetweenUptoRow, standIns := [], harness := (true, "7e007695281886813cdef532baba37053e1c23961511217fdbbfe3c0579aab35"), looks := true }, kinds := [], alts := [], laidByText := true, laidKinds := [.data, .data, .data, .data, .sentinel, .sentinel, .pinned], laidTests := true, laidLooks := .later }
def CurveBetweenUptoCardSaid : Prop := Claim7.holds Tryz.pinned (.plain (OpenSpec.upto curveBetweenSpec)) curveBetweenUptoCard

/-- THE SECOND FORM's CARD OF 'luminairelaw09.CurveChecks'. -/
def curveChecksUptoCard : Claim7 := { stood := { row := curveChecksUptoRow, standIns := [], harness := (true, "7e007695281886813cdef532baba37053e1c23961511217fdbbfe3c0579aab35"), looks := true }, kinds := [], alts := [], laidByText := true, laidKinds := [.data, .data, .data, .data, .sentinel, .sentinel, .pinned], laidTests := true, laidLooks := .later }
def CurveChecksUptoCardSaid : Prop := Claim7.holds Tryz.pinned (.plain (OpenSpec.upto curveChecksSpec)) curveChecksUptoCard

/-- THE SECOND FORM's CARD OF 'luminairelaw09.CurveReturns'. -/
def curveReturnsUptoCard : Claim7 := { stood := { row := curveReturnsUptoRow, standIns := [], harness := (true, "7e007695281886813cdef532baba37053e1c23961511217fdbbfe3c0579aab35"), looks := true }, kinds := [], alts := [], laidByText := true, laidKinds := [.data, .data, .data, .data, .sentinel, .sentinel, .pinned], laidTests := true, laidLooks := .later }
def CurveReturnsUptoCardSaid : Prop := Claim7.holds Tryz.pinned (.plain (OpenSpec.upto curveReturnsSpec)) curveReturnsUptoCard

/-- THE SECOND FORM's CARD OF 'luminairelaw09.CurveFlips'. -/
def curveFlipsUptoCard : Claim7 := { stood := { row := curveFlipsUptoRow, standIns := [], harness := (true, "7e007695281886813cdef532baba37053e1c23961511217fdbbfe3c0579aab35"), looks := true }, kinds := [], alts := [], laidByText := true, laidKinds := [.data, .data, .data, .data, .sentinel, .sentinel, .pinned], laidTests := true, laidLooks := .later }
def CurveFlipsUptoCardSaid : Prop := Claim7.holds Tryz.pinned (.plain (OpenSpec.upto curveFlipsSpec)) curveFlipsUptoCard

/-- THE SECOND FORM's CARD OF 'luminairelaw09.CurveChanges'. -/
def curveChangesUptoCard : Claim7 := { stood := { row := curveChangesUptoRow, standIns := [], harness := (true, "7e007695281886813cdef532baba37053e1c23961511217fdbbfe3c0579aab35"), looks := true }, kinds := [], alts := [], laidByText := true, laidKinds := [.data, .data, .data, .data, .sentinel, .sentinel, .pinned], laidTests := true, laidLooks := .later }
def CurveChangesUptoCardSaid : Prop := Claim7.holds Tryz.pinned (.plain (OpenSpec.upto curveChangesSpec)) curveChangesUptoCard

/-- THE SECOND FORM's CARD OF 'luminairelaw09.CurveChains'. -/
def curveChainsUptoCard : Claim7 := { stood := { row := curveChainsUptoRow, standIns := [], harness := (true, "7e007695281886813cdef532baba37053e1c23961511217fdbbfe3c0579aab35"), looks := true }, kinds := [], alts := [], laidByText := true, laidKinds := [.data, .data, .data, .data, .sentinel, .sentinel, .pinned], laidTests := true, laidLooks := .later }
def CurveChainsUptoCardSaid : Prop := Claim7.holds Tryz.pinned (.plain (OpenSpec.upto curveChainsSpec)) curveChainsUptoCard

/-- THE SECOND FORM's CARD OF 'luminairelaw09.CurveFollows'. -/
def curveFollowsUptoCard : Claim7 := { stood := { row := curveFollowsUptoRow, standIns := [], harness := (true, "7e007695281886813cdef532baba37053e1c23961511217fdbbfe3c0579aab35"), looks := true }, kinds := [], alts := [], laidByText := true, laidKinds := [.data, .data, .data, .data, .sentinel, .sentinel, .pinned], laidTests := true, laidLooks := .later }
def CurveFollowsUptoCardSaid : Prop := Claim7.holds Tryz.pinned (.plain (OpenSpec.upto curveFollowsSpec)) curveFollowsUptoCard
end Rows
end Go.Proofs.YtfehefafgghopaaGreatDoor
