/- Lemmas and contracts of functions, joined for the claim: ProfileRisesFacts. -/
import Derived.Test.YtpinmgoeapakdaaGreatDoorGLaw
namespace Go.Proofs.YtpinmgoeapakdaaGreatDoor
open Go.ChangeShapes Go.ChangeMaps Go.WideShapes Go.ChangeAt Go.RowKit

theorem profileRises_facts : joinedFacts Tryz.pinned.checked.prog 8 Tryz.f8 Rows.profileRisesSpec Rows.profileRisesRow = true := by kernel_rfl
end Go.Proofs.YtpinmgoeapakdaaGreatDoor
