/- Lemmas. -/
import Derived.Test.YtmcbkdlfhffphaaGreatDoorMUniF
import Derived.Test.YtmcbkdlfhffphaaGreatDoorMUniG
namespace Go.Proofs.YtmcbkdlfhffphaaGreatDoor
set_option maxHeartbeats 32000000

section
open Go.RowKit
end

section
open Go.RowKit
end

section
open Go.RowKit
end

end Go.Proofs.YtmcbkdlfhffphaaGreatDoor
