/- Lemmas and contracts of functions, joined for the claim: Take. -/
import Derived.Test.YtbfikenbgfnfiaaGreatDoorKWord
import Derived.Deep.RegionHeld3
namespace Go.Proofs.YtbfikenbgfnfiaaGreatDoor
set_option maxHeartbeats 32000000

section
open Go.RowKit
end

end Go.Proofs.YtbfikenbgfnfiaaGreatDoor
