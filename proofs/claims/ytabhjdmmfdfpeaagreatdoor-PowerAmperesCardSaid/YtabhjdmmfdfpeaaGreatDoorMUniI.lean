/- Lemmas. -/
import Derived.Test.YtabhjdmmfdfpeaaGreatDoorMUniF
namespace Go.Proofs.YtabhjdmmfdfpeaaGreatDoor
set_option maxHeartbeats 32000000

section
open Go.RowKit
end

end Go.Proofs.YtabhjdmmfdfpeaaGreatDoor
