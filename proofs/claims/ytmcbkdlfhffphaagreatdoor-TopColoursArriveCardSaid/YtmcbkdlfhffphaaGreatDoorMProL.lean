/- Lemmas. -/
import Derived.Test.YtmcbkdlfhffphaaGreatDoorMProK
namespace Go.Proofs.YtmcbkdlfhffphaaGreatDoor
set_option maxHeartbeats 32000000

section
open Go.RowKit
end

end Go.Proofs.YtmcbkdlfhffphaaGreatDoor
