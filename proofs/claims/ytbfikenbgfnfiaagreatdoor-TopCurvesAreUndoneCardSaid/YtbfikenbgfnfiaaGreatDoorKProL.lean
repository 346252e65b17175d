/- Lemmas and contracts of functions, joined for the claim: PrCheck3. -/
import Derived.Test.YtbfikenbgfnfiaaGreatDoorKProK
namespace Go.Proofs.YtbfikenbgfnfiaaGreatDoor
set_option maxHeartbeats 32000000

section
open Go.RowKit
end

end Go.Proofs.YtbfikenbgfnfiaaGreatDoor
