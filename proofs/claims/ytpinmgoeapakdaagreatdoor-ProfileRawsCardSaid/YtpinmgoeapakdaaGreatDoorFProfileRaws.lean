/- Lemmas and contracts of functions, joined for the claim: ProfileRawsFacts. -/
import Derived.Test.YtpinmgoeapakdaaGreatDoorGLaw
namespace Go.Proofs.YtpinmgoeapakdaaGreatDoor
open Go.ChangeShapes Go.ChangeMaps Go.WideShapes Go.ChangeAt Go.RowKit

theorem profileRaws_facts : joinedFacts Tryz.pinned.checked.prog 3 Tryz.f3 Rows.profileRawsSpec Rows.profileRawsRow = true := by kernel_rfl
end Go.Proofs.YtpinmgoeapakdaaGreatDoor
