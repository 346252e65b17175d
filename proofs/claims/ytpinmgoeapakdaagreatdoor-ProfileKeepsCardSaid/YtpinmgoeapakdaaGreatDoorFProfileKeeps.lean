/- Lemmas and contracts of functions, joined for the claim: ProfileKeepsFacts. -/
import Derived.Test.YtpinmgoeapakdaaGreatDoorGLaw
namespace Go.Proofs.YtpinmgoeapakdaaGreatDoor
open Go.ChangeShapes Go.ChangeMaps Go.WideShapes Go.ChangeAt Go.RowKit

theorem profileKeeps_facts : joinedFacts Tryz.pinned.checked.prog 9 Tryz.f9 Rows.profileKeepsSpec Rows.profileKeepsRow = true := by kernel_rfl
end Go.Proofs.YtpinmgoeapakdaaGreatDoor
