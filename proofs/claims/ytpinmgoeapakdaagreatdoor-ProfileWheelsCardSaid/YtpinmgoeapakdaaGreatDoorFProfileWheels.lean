/- Lemmas and contracts of functions, joined for the claim: ProfileWheelsFacts. -/
import Derived.Test.YtpinmgoeapakdaaGreatDoorGLaw
namespace Go.Proofs.YtpinmgoeapakdaaGreatDoor
open Go.ChangeShapes Go.ChangeMaps Go.WideShapes Go.ChangeAt Go.RowKit

theorem profileWheels_facts : joinedFacts Tryz.pinned.checked.prog 4 Tryz.f4 Rows.profileWheelsSpec Rows.profileWheelsRow = true := by kernel_rfl
end Go.Proofs.YtpinmgoeapakdaaGreatDoor
