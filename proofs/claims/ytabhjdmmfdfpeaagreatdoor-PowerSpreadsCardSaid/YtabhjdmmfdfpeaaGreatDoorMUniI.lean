/- Lemmas. -/
import Derived.Test.YtabhjdmmfdfpeaaGreatDoorMUniF
namespace Go.Proofs.YtabhjdmmfdfpeaaGreatDoor
set_option maxHeartbeats 32000000
open Go.RowKit
end Go.Proofs.YtabhjdmmfdfpeaaGreatDoor
