/- Lemmas. -/
import Derived.Test.YtabhjdmmfdfpeaaGreatDoorKUniF
namespace Go.Proofs.YtabhjdmmfdfpeaaGreatDoor
set_option maxHeartbeats 32000000
open Go.RowKit
end Go.Proofs.YtabhjdmmfdfpeaaGreatDoor
