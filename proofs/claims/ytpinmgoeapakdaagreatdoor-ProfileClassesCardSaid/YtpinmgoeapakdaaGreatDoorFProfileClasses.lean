/- Lemmas and contracts of functions, joined for the claim: ProfileClassesFacts. -/
import Derived.Test.YtpinmgoeapakdaaGreatDoorGLaw
namespace Go.Proofs.YtpinmgoeapakdaaGreatDoor
open Go.ChangeShapes Go.ChangeMaps Go.WideShapes Go.ChangeAt Go.RowKit

theorem profileClasses_facts : joinedFacts Tryz.pinned.checked.prog 6 Tryz.f6 Rows.profileClassesSpec Rows.profileClassesRow = true := by kernel_rfl
end Go.Proofs.YtpinmgoeapakdaaGreatDoor
