/-
  DERIVED. GIVEN WITH THE SEED: THE CARDS: each row of YtpinmgoeapakdaaGreatDoorRows.lean that lists a variable, with what it lists TIED to the program's text (the seventh form; the later family's looks); each row that meets fmt, with fmt's text TOLD by the authors' own Lean function (tested against real Go, not proved from fmt's source: count such statements apart). THE CARD IS WHAT COUNTS. Prove the row's statement (the work); the ties are given (YtpinmgoeapakdaaGreatDoorTie.lean); close each card by the builder's one call (the guide's Derived/Test/ToyasCard.lean, 'card_holds'). Laid BY PROGRAM, IN A SANDBOX (cutbox-door.mjs). By AI agents, Wed Nov 11 2026. No macro, syntax, notation, axiom, sorry.
-/
import Derived.Test.YtpinmgoeapakdaaGreatDoorRows
import GoSem.ClaimSeven
namespace Go.Proofs.YtpinmgoeapakdaaGreatDoor
namespace Rows

/-- THE TIED CARD OF 'luminairelaw10.ProfileRaws'. -/
def profileRawsCard : Claim7 := { stood := { row := profileRawsRow, standIns := [], harness := (true, "c3d8ae1918c4f8ff505efee564eec2d4328f310576adbccc116a5ab88642d2ca"), looks := true }, kinds := [], alts := [], laidByText := true, laidKinds := [.data, .data, .data, .data, .sentinel, .sentinel, .pinned], laidTests := true, laidLooks := .later }
def ProfileRawsCardSaid : Prop := Claim7.holds Tryz.pinned (.plain (OpenSpec.ofChange profileRawsSpec)) profileRawsCard

/-- THE TIED CARD OF 'luminairelaw10.ProfileWheels'. -/
def profileWheelsCard : Claim7 := { stood := { row := profileWheelsRow, standIns := [], harness := (true, "c3d8ae1918c4f8ff505efee564eec2d4328f310576adbccc116a5ab88642d2ca"), looks := true }, kinds := [], alts := [], laidByText := true, laidKinds := [.data, .data, .data, .data, .sentinel, .sentinel, .pinned], laidTests := true, laidLooks := .later }
def ProfileWheelsCardSaid : Prop := Claim7.holds Tryz.pinned (.plain (OpenSpec.ofChange profileWheelsSpec)) profileWheelsCard

/-- THE TIED CARD OF 'luminairelaw10.ProfileSlots'. -/
def profileSlotsCard : Claim7 := { stood := { row := profileSlotsRow, standIns := [], harness := (true, "c3d8ae1918c4f8ff505efee564eec2d4328f310576adbccc116a5ab88642d2ca"), looks := true }, kinds := [], alts := [], laidByText := true, laidKinds := [.data, .data, .data, .data, .sentinel, .sentinel, .pinned], laidTests := true, laidLooks := .later }
def ProfileSlotsCardSaid : Prop := Claim7.holds Tryz.pinned (.plain (OpenSpec.ofChange profileSlotsSpec)) profileSlotsCard

/-- THE TIED CARD OF 'luminairelaw10.ProfileClasses'. -/
def profileClassesCard : Claim7 := { stood := { row := profileClassesRow, standIns := [], harness := (true, "c3d8ae1918c4f8ff505efee564eec2d4328f310576adbccc116a5ab88642d2ca"), looks := true }, kinds := [], alts := [], laidByText := true, laidKinds := [.data, .data, .data, .data, .sentinel, .sentinel, .pinned], laidTests := true, laidLooks := .later }
def ProfileClassesCardSaid : Prop := Claim7.holds Tryz.pinned (.plain (OpenSpec.ofChange profileClassesSpec)) profileClassesCard

/-- THE TIED CARD OF 'luminairelaw10.ProfileLevels'. -/
def profileLevelsCard : Claim7 := { stood := { row := profileLevelsRow, standIns := [], harness := (true, "c3d8ae1918c4f8ff505efee564eec2d4328f310576adbccc116a5ab88642d2ca"), looks := true }, kinds := [], alts := [], laidByText := true, laidKinds := [.data, .data, .data, .data, .sentinel, .sentinel, .pinned], laidTests := true, laidLooks := .later }
def ProfileLevelsCardSaid : Prop := Claim7.holds Tryz.pinned (.plain (OpenSpec.ofChange profileLevelsSpec)) profileLevelsCard

/-- THE TIED CARD OF 'luminairelaw10.ProfileRises'. -/
def profileRisesCard : Claim7 := { stood := { row := profileRisesRow, standIns := [], harness := (true, "c3d8ae1918c4f8ff505efee564eec2d4328f310576adbccc116a5ab88642d2ca"), looks := true }, kinds := [], alts := [], laidByText := true, laidKinds := [.data, .data, .data, .data, .sentinel, .sentinel, .pinned], laidTests := true, laidLooks := .later }
def ProfileRisesCardSaid : Prop := Claim7.holds Tryz.pinned (.plain (OpenSpec.ofChange profileRisesSpec)) profileRisesCard

/-- THE TIED CARD OF 'luminairelaw10.ProfileKeeps'. -/
def profileKeepsCard : Claim7 := { stood := { row := profileKeepsRow, standIns := [], harness := (true, "c3d8ae1918c4f8ff505efee564eec2d4328f310576adbccc116a5ab88642d2ca"), looks := true }, kinds := [], alts := [], laidByText := true, laidKinds := [.data, .data, .data, .data, .sentinel, .sentinel, .pinned], laidTests := true, laidLooks := .later }
def ProfileKeepsCardSaid : Prop := Claim7.holds Tryz.pinned (.plain (OpenSpec.ofChange profileKeepsSpec)) profileKeepsCard

/-- THE TIED CARD OF 'luminairelaw10.ProfileChecks'. -/
def profileChecksCard : Claim7 := { stood := { row := profileChecksRow, standIns := [], harness := (true, "c3d8ae1918c4f8ff505efee564eec2d4328f310576adbccc116a5ab88642d2ca"), looks := true }, kinds := [], alts := [], laidByText := true, laidKinds := [.data, .data, .data, .data, .sentinel, .sentinel, .pinned], laidTests := true, laidLooks := .later }
def ProfileChecksCardSaid : Prop := Claim7.holds Tryz.pinned (.plain (OpenSpec.ofChange profileChecksSpec)) profileChecksCard

/-- THE SECOND FORM's CARD OF 'luminairelaw10.ProfileRaws'. -/
def profileRawsUptoCard : Claim7 := { stood := { row := profileRawsUptoRow, standIns := [], harness := (true, "c3d8ae1918c4f8ff505efee564eec2d4328f310576adbccc116a5ab88642d2ca"), looks := true }, kinds := [], alts := [], laidByText := true, laidKinds := [.data, .data, .data, .data, .sentinel, .sentinel, .pinned], laidTests := true, laidLooks := .later }
def ProfileRawsUptoCardSaid : Prop := Claim7.holds Tryz.pinned (.plain (OpenSpec.upto profileRawsSpec)) profileRawsUptoCard

/-- THE SECOND FORM's CARD OF 'luminairelaw10.ProfileWheels'. -/
def profileWheelsUptoCard : Claim7 := { stood := { row := profileWheelsUptoRow, standIns := [], harness := (true, "c3d8ae1918c4f8ff505efee564eec2d4328f310576adbccc116a5ab88642d2ca"), looks := true }, kinds := [], alts := [], laidByText := true, laidKinds := [.data, .data, .data, .data, .sentinel, .sentinel, .pinned], laidTests := true, laidLooks := .later }
def ProfileWheelsUptoCardSaid : Prop := Claim7.holds Tryz.pinned (.plain (OpenSpec.upto profileWheelsSpec)) profileWheelsUptoCard

/-- THE SECOND FORM's CARD OF 'luminairelaw10.ProfileSlots'. -/
def profileSlotsUptoCard : Claim7 := { stood := { row := profileSlotsUptoRow, standIns := [], harness := (true, "c3d8ae1918c4f8ff505efee564eec2d4328f310576adbccc116a5ab88642d2ca"), looks := true }, kinds := [], alts := [], laidByText := true, laidKinds := [.data, .data, .data, .data, .sentinel, .sentinel, .pinned], laidTests := true, laidLooks := .later }
def ProfileSlotsUptoCardSaid : Prop := Claim7.holds Tryz.pinned (.plain (OpenSpec.upto profileSlotsSpec)) profileSlotsUptoCard

/-- THE SECOND FORM's CARD OF 'luminairelaw10.ProfileClasses'. -/
def profileClassesUptoCard : Claim7 := { stood := { row := profileClassesUptoRow, standIns := [], harness := (true, "c3d8ae1918c4f8ff505efee564eec2d4328f310576adbccc116a5ab88642d2ca"), looks := true }, kinds := [], alts := [], laidByText := true, laidKinds := [.data, .data, .data, .data, .sentinel, .sentinel, .pinned], laidTests := true, laidLooks := .later }
def ProfileClassesUptoCardSaid : Prop := Claim7.holds Tryz.pinned (.plain (OpenSpec.upto profileClassesSpec)) profileClassesUptoCard

/-- THE SECOND FORM's CARD OF 'luminairelaw10.ProfileLevels'. -/
def profileLevelsUptoCard : Claim7 := { stood := { row := profileLevelsUptoRow, standIns := [], harness := (true, "c3d8ae1918c4f8ff505efee564eec2d4328f310576adbccc116a5ab88642d2ca"), looks := true }, kinds := [], alts := [], laidByText := true, laidKinds := [.data, .data, .data, .data, .sentinel, .sentinel, .pinned], laidTests := true, laidLooks := .later }
def ProfileLevelsUptoCardSaid : Prop := Claim7.holds Tryz.pinned (.plain (OpenSpec.upto profileLevelsSpec)) profileLevelsUptoCard

/-- THE SECOND FORM's CARD OF 'luminairelaw10.ProfileRises'. -/
def profileRisesUptoCard : Claim7 := { stood := { row := profileRisesUptoRow, standIns := [], harness := (true, "c3d8ae1918c4f8ff505efee564eec2d4328f310576adbccc116a5ab88642d2ca"), looks := true }, kinds := [], alts := [], laidByText := true, laidKinds := [.data, .data, .data, .data, .sentinel, .sentinel, .pinned], laidTests := true, laidLooks := .later }
def ProfileRisesUptoCardSaid : Prop := Claim7.holds Tryz.pinned (.plain (OpenSpec.upto profileRisesSpec)) profileRisesUptoCard

/-- THE SECOND FORM's CARD OF 'luminairelaw10.ProfileKeeps'. -/
def profileKeepsUptoCard : Claim7 := { stood := { row := profileKeepsUptoRow, standIns := [], harness := (true, "c3d8ae1918c4f8ff505efee564eec2d4328f310576adbccc116a5ab88642d2ca"), looks := true }, kinds := [], alts := [], laidByText := true, laidKinds := [.data, .data, .data, .data, .sentinel, .sentinel, .pinned], laidTests := true, laidLooks := .later }
def ProfileKeepsUptoCardSaid : Prop := Claim7.holds Tryz.pinned (.plain (OpenSpec.upto profileKeepsSpec)) profileKeepsUptoCard

/-- THE SECOND FORM's CARD OF 'luminairelaw10.ProfileChecks'. -/
def profileChecksUptoCard : Claim7 := { stood := { row := profileChecksUptoRow, standIns := [], harness := (true, "c3d8ae1918c4f8ff505efee564eec2d4328f310576adbccc116a5ab88642d2ca"), looks := true }, kinds := [], alts := [], laidByText := true, laidKinds := [.data, .data, .data, .data, .sentinel, .sentinel, .pinned], laidTests := true, laidLooks := .later }
def ProfileChecksUptoCardSaid : Prop := Claim7.holds Tryz.pinned (.plain (OpenSpec.upto profileChecksSpec)) profileChecksUptoCard
end Rows
end Go.Proofs.YtpinmgoeapakdaaGreatDoor
