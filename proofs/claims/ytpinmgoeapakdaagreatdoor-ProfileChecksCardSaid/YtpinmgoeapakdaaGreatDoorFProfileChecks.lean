/- Lemmas and contracts of functions, joined for the claim: ProfileChecksFacts. -/
import Derived.Test.YtpinmgoeapakdaaGreatDoorGLaw
namespace Go.Proofs.YtpinmgoeapakdaaGreatDoor
open Go.ChangeShapes Go.ChangeMaps Go.WideShapes Go.ChangeAt Go.RowKit

theorem profileChecks_facts : joinedFacts Tryz.pinned.checked.prog 10 Tryz.f10 Rows.profileChecksSpec Rows.profileChecksRow = true := by kernel_rfl
end Go.Proofs.YtpinmgoeapakdaaGreatDoor
