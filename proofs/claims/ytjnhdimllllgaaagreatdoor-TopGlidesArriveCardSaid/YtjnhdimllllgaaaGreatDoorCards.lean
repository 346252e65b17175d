/-
  DERIVED. GIVEN WITH THE SEED: THE CARDS: each row of YtjnhdimllllgaaaGreatDoorRows.lean that lists a variable, with what it lists TIED to the program's text (the seventh form; the later family's looks); each row that meets fmt, with fmt's text TOLD by the authors' own Lean function (tested against real Go, not proved from fmt's source: count such statements apart). THE CARD IS WHAT COUNTS. Prove the row's statement (the work); the ties are given (YtjnhdimllllgaaaGreatDoorTie.lean); close each card by the builder's one call (the guide's Derived/Test/ToyasCard.lean, 'card_holds'). Laid BY PROGRAM, IN A SANDBOX (cutbox-door.mjs). By AI agents, Wed Nov 11 2026. No macro, syntax, notation, axiom, sorry.
-/
import Derived.Test.YtjnhdimllllgaaaGreatDoorRows
import GoSem.ClaimSeven
namespace Go.Proofs.YtjnhdimllllgaaaGreatDoor
namespace Rows

/-- THE TIED CARD OF 'luminairelaw03.GlideGoes'. -/
def glideGoesCard : Claim7 := { stood := { row := glideGoesRow, standIns := [], harness := (true, "7f983f344d7e5892670369ef0f09b4407872bfc574b07da064fa94b4eda83683"), looks := true }, kinds := [], alts := [], laidByText := true, laidKinds := [.data, .data, .data, .data, .sentinel, .sentinel, .pinned], laidTests := true, laidLooks := .later }
def GlideGoesCardSaid : Prop := Claim7.holds Tryz.pinned (.plain (OpenSpec.ofChange glideGoesSpec)) glideGoesCard

/-- THE TIED CARD OF 'luminairelaw03.GlideChains'. -/
def glideChainsCard : Claim7 := { stood := { row := glideChainsRow, standIns := [], harness := (true, "7f983f344d7e5892670369ef0f09b4407872bfc574b07da064fa94b4eda83683"), looks := true }, kinds := [], alts := [], laidByText := true, laidKinds := [.data, .data, .data, .data, .sentinel, .sentinel, .pinned], laidTests := true, laidLooks := .later }
def GlideChainsCardSaid : Prop := Claim7.holds Tryz.pinned (.plain (OpenSpec.ofChange glideChainsSpec)) glideChainsCard

/-- THE TIED CARD OF 'luminairelaw03.GlideOvertakes'. -/
def glideOvertakesCard : Claim7 := { stood := { row := glideOvertakesRow, standIns := [], harness := (true, "7f983f344d7e5892670369ef0f09b4407872bfc574b07da064fa94b4eda83683"), looks := true }, kinds := [], alts := [], laidByText := true, laidKinds := [.data, .data, .data, .data, .sentinel, .sentinel, .pinned], laidTests := true, laidLooks := .later }
def GlideOvertakesCardSaid : Prop := Claim7.holds Tryz.pinned (.plain (OpenSpec.ofChange glideOvertakesSpec)) glideOvertakesCard

/-- THE TIED CARD OF 'luminairelaw03.GlideMonotone'. -/
def glideMonotoneCard : Claim7 := { stood := { row := glideMonotoneRow, standIns := [], harness := (true, "7f983f344d7e5892670369ef0f09b4407872bfc574b07da064fa94b4eda83683"), looks := true }, kinds := [], alts := [], laidByText := true, laidKinds := [.data, .data, .data, .data, .sentinel, .sentinel, .pinned], laidTests := true, laidLooks := .later }
def GlideMonotoneCardSaid : Prop := Claim7.holds Tryz.pinned (.plain (OpenSpec.ofChange glideMonotoneSpec)) glideMonotoneCard

/-- THE TIED CARD OF 'luminairelaw03.GlideLevels'. -/
def glideLevelsCard : Claim7 := { stood := { row := glideLevelsRow, standIns := [], harness := (true, "7f983f344d7e5892670369ef0f09b4407872bfc574b07da064fa94b4eda83683"), looks := true }, kinds := [], alts := [], laidByText := true, laidKinds := [.data, .data, .data, .data, .sentinel, .sentinel, .pinned], laidTests := true, laidLooks := .later }
def GlideLevelsCardSaid : Prop := Claim7.holds Tryz.pinned (.plain (OpenSpec.ofChange glideLevelsSpec)) glideLevelsCard

/-- THE TIED CARD OF 'luminairelaw03.GlideReads'. -/
def glideReadsCard : Claim7 := { stood := { row := glideReadsRow, standIns := [], harness := (true, "7f983f344d7e5892670369ef0f09b4407872bfc574b07da064fa94b4eda83683"), looks := true }, kinds := [], alts := [], laidByText := true, laidKinds := [.data, .data, .data, .data, .sentinel, .sentinel, .pinned], laidTests := true, laidLooks := .later }
def GlideReadsCardSaid : Prop := Claim7.holds Tryz.pinned (.plain (OpenSpec.ofChange glideReadsSpec)) glideReadsCard

/-- THE TIED CARD OF 'luminairelaw03.GlideBends'. -/
def glideBendsCard : Claim7 := { stood := { row := glideBendsRow, standIns := [], harness := (true, "7f983f344d7e5892670369ef0f09b4407872bfc574b07da064fa94b4eda83683"), looks := true }, kinds := [], alts := [], laidByText := true, laidKinds := [.data, .data, .data, .data, .sentinel, .sentinel, .pinned], laidTests := true, laidLooks := .later }
def GlideBendsCardSaid : Prop := Claim7.holds Tryz.pinned (.plain (OpenSpec.ofChange glideBendsSpec)) glideBendsCard

/-- THE TIED CARD OF 'luminairetop.TopGlidesRaw'. -/
def topGlidesRawCard : Claim7 := { stood := { row := topGlidesRawRow, standIns := [], harness := (true, "7f983f344d7e5892670369ef0f09b4407872bfc574b07da064fa94b4eda83683"), looks := true }, kinds := [], alts := [], laidByText := true, laidKinds := [.data, .data, .data, .data, .sentinel, .sentinel, .pinned], laidTests := true, laidLooks := .later }
def TopGlidesRawCardSaid : Prop := Claim7.holds Tryz.pinned (.plain (OpenSpec.ofChange topGlidesRawSpec)) topGlidesRawCard

/-- THE TIED CARD OF 'luminairetop.TopGlidesContinuous'. -/
def topGlidesContinuousCard : Claim7 := { stood := { row := topGlidesContinuousRow, standIns := [], harness := (true, "7f983f344d7e5892670369ef0f09b4407872bfc574b07da064fa94b4eda83683"), looks := true }, kinds := [], alts := [], laidByText := true, laidKinds := [.data, .data, .data, .data, .sentinel, .sentinel, .pinned], laidTests := true, laidLooks := .later }
def TopGlidesContinuousCardSaid : Prop := Claim7.holds Tryz.pinned (.plain (OpenSpec.ofChange topGlidesContinuousSpec)) topGlidesContinuousCard

/-- THE TIED CARD OF 'luminairetop.TopGlidesArrive'. -/
def topGlidesArriveCard : Claim7 := { stood := { row := topGlidesArriveRow, standIns := [], harness := (true, "7f983f344d7e5892670369ef0f09b4407872bfc574b07da064fa94b4eda83683"), looks := true }, kinds := [], alts := [], laidByText := true, laidKinds := [.data, .data, .data, .data, .sentinel, .sentinel, .pinned], laidTests := true, laidLooks := .later }
def TopGlidesArriveCardSaid : Prop := Claim7.holds Tryz.pinned (.plain (OpenSpec.ofChange topGlidesArriveSpec)) topGlidesArriveCard

/-- THE SECOND FORM's CARD OF 'luminairelaw03.GlideGoes'. -/
def glideGoesUptoCard : Claim7 := { stood := { row := glideGoesUptoRow, standIns := [], harness := (true, "7f983f344d7e5892670369ef0f09b4407872bfc574b07da064fa94b4eda83683"), looks := true }, kinds := [], alts := [], laidByText := true, laidKinds := [.data, .data, .data, .data, .sentinel, .sentinel, .pinned], laidTests := true, laidLooks := .later }
def GlideGoesUptoCardSaid : Prop := Claim7.holds Tryz.pinned (.plain (OpenSpec.upto glideGoesSpec)) glideGoesUptoCard

/-- THE SECOND FORM's CARD OF 'luminairelaw03.GlideChains'. -/
def glideChainsUptoCard : Claim7 := { stood := { row := glideChainsUptoRow, standIns := [], harness := (true, "7f983f344d7e5892670369ef0f09b4407872bfc574b07da064fa94b4eda83683"), looks := true }, kinds := [], alts := [], laidByText := true, laidKinds := [.data, .data, .data, .data, .sentinel, .sentinel, .pinned], laidTests := true, laidLooks := .later }
def GlideChainsUptoCardSaid : Prop := Claim7.holds Tryz.pinned (.plain (OpenSpec.upto glideChainsSpec)) glideChainsUptoCard

/-- THE SECOND FORM's CARD OF 'luminairelaw03.GlideOvertakes'. -/
def glideOvertakesUptoCard : Claim7 := { stood := { row := glideOvertakesUptoRow, standIns := [], harness := (true, "7f983f344d7e5892670369ef0f09b4407872bfc574b07da064fa94b4eda83683"), looks := true }, kinds := [], alts := [], laidByText := true, laidKinds := [.data, .data, .data, .data, .sentinel, .sentinel, .pinned], laidTests := true, laidLooks := .later }
def GlideOvertakesUptoCardSaid : Prop := Claim7.holds Tryz.pinned (.plain (OpenSpec.upto glideOvertakesSpec)) glideOvertakesUptoCard

/-- THE SECOND FORM's CARD OF 'luminairelaw03.GlideMonotone'. -/
def glideMonotoneUptoCard : Claim7 := { stood := { row := glideMonotoneUptoRow, standIns := [], harness := (true, "7f983f344d7e5892670369ef0f09b4407872bfc574b07da064fa94b4eda83683"), looks := true }, kinds := [], alts := [], laidByText := true, laidKinds := [.data, .data, .data, .data, .sentinel, .sentinel, .pinned], laidTests := true, laidLooks := .later }
def GlideMonotoneUptoCardSaid : Prop := Claim7.holds Tryz.pinned (.plain (OpenSpec.upto glideMonotoneSpec)) glideMonotoneUptoCard

/-- THE SECOND FORM's CARD OF 'luminairelaw03.GlideLevels'. -/
def glideLevelsUptoCard : Claim7 := { stood := { row := glideLevelsUptoRow, standIns := [], harness := (true, "7f983f344d7e5892670369ef0f09b4407872bfc574b07da064fa94b4eda83683"), looks := true }, kinds := [], alts := [], laidByText := true, laidKinds := [.data, .data, .data, .data, .sentinel, .sentinel, .pinned], laidTests := true, laidLooks := .later }
def GlideLevelsUptoCardSaid : Prop := Claim7.holds Tryz.pinned (.plain (OpenSpec.upto glideLevelsSpec)) glideLevelsUptoCard

/-- THE SECOND FORM's CARD OF 'luminairelaw03.GlideReads'. -/
def glideReadsUptoCard : Claim7 := { stood := { row := glideReadsUptoRow, standIns := [], harness := (true, "7f983f344d7e5892670369ef0f09b4407872bfc574b07da064fa94b4eda83683"), looks := true }, kinds := [], alts := [], laidByText := true, laidKinds := [.data, .data, .data, .data, .sentinel, .sentinel, .pinned], laidTests := true, laidLooks := .later }
def GlideReadsUptoCardSaid : Prop := Claim7.holds Tryz.pinned (.plain (OpenSpec.upto glideReadsSpec)) glideReadsUptoCard

/-- THE SECOND FORM's CARD OF 'luminairelaw03.GlideBends'. -/
def glideBendsUptoCard : Claim7 := { stood := { row := glideBendsUptoRow, standIns := [], harness := (true, "7f983f344d7e5892670369ef0f09b4407872bfc574b07da064fa94b4eda83683"), looks := true }, kinds := [], alts := [], laidByText := true, laidKinds := [.data, .data, .data, .data, .sentinel, .sentinel, .pinned], laidTests := true, laidLooks := .later }
def GlideBendsUptoCardSaid : Prop := Claim7.holds Tryz.pinned (.plain (OpenSpec.upto glideBendsSpec)) glideBendsUptoCard

/-- THE SECOND FORM's CARD OF 'luminairetop.TopGlidesRaw'. -/
def topGlidesRawUptoCard : Claim7 := { stood := { row := topGlidesRawUptoRow, standIns := [], harness := (true, "7f983f344d7e5892670369ef0f09b4407872bfc574b07da064fa94b4eda83683"), looks := true }, kinds := [], alts := [], laidByText := true, laidKinds := [.data, .data, .data, .data, .sentinel, .sentinel, .pinned], laidTests := true, laidLooks := .later }
def TopGlidesRawUptoCardSaid : Prop := Claim7.holds Tryz.pinned (.plain (OpenSpec.upto topGlidesRawSpec)) topGlidesRawUptoCard

/-- THE SECOND FORM's CARD OF 'luminairetop.TopGlidesContinuous'. -/
def topGlidesContinuousUptoCard : Claim7 := { stood := { row := topGlidesContinuousUptoRow, standIns := [], harness := (true, "7f983f344d7e5892670369ef0f09b4407872bfc574b07da064fa94b4eda83683"), looks := true }, kinds := [], alts := [], laidByText := true, laidKinds := [.data, .data, .data, .data, .sentinel, .sentinel, .pinned], laidTests := true, laidLooks := .later }
def TopGlidesContinuousUptoCardSaid : Prop := Claim7.holds Tryz.pinned (.plain (OpenSpec.upto topGlidesContinuousSpec)) topGlidesContinuousUptoCard

/-- THE SECOND FORM's CARD OF 'luminairetop.TopGlidesArrive'. -/
def topGlidesArriveUptoCard : Claim7 := { stood := { row := topGlidesArriveUptoRow, standIns := [], harness := (true, "7f983f344d7e5892670369ef0f09b4407872bfc574b07da064fa94b4eda83683"), looks := true }, kinds := [], alts := [], laidByText := true, laidKinds := [.data, .data, .data, .data, .sentinel, .sentinel, .pinned], laidTests := true, laidLooks := .later }
def TopGlidesArriveUptoCardSaid : Prop := Claim7.holds Tryz.pinned (.plain (OpenSpec.upto topGlidesArriveSpec)) topGlidesArriveUptoCard
end Rows
end Go.Proofs.YtjnhdimllllgaaaGreatDoor
