/- Lemmas and contracts of functions, joined for the claim: ProfileSlotsFacts. -/
import Derived.Test.YtpinmgoeapakdaaGreatDoorGLaw
namespace Go.Proofs.YtpinmgoeapakdaaGreatDoor
open Go.ChangeShapes Go.ChangeMaps Go.WideShapes Go.ChangeAt Go.RowKit

theorem profileSlots_facts : joinedFacts Tryz.pinned.checked.prog 5 Tryz.f5 Rows.profileSlotsSpec Rows.profileSlotsRow = true := by kernel_rfl
end Go.Proofs.YtpinmgoeapakdaaGreatDoor
