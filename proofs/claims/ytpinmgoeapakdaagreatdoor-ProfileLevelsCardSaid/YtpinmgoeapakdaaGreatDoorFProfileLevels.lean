/- Lemmas and contracts of functions, joined for the claim: ProfileLevelsFacts. -/
import Derived.Test.YtpinmgoeapakdaaGreatDoorGLaw
namespace Go.Proofs.YtpinmgoeapakdaaGreatDoor
open Go.ChangeShapes Go.ChangeMaps Go.WideShapes Go.ChangeAt Go.RowKit

theorem profileLevels_facts : joinedFacts Tryz.pinned.checked.prog 7 Tryz.f7 Rows.profileLevelsSpec Rows.profileLevelsRow = true := by kernel_rfl
end Go.Proofs.YtpinmgoeapakdaaGreatDoor
