/- Lemmas. -/
import Derived.Test.YtabhjdmmfdfpeaaGreatDoorMProD
namespace Go.Proofs.YtabhjdmmfdfpeaaGreatDoor
set_option maxHeartbeats 32000000

section
open Go.ChangeShapes Go.WideShapes Go.ChangeAt Go.RowKit Go.Deep
end

section
open Go.RowKit
end

section
open Go.ChangeShapes Go.WideShapes Go.ChangeAt Go.RowKit Go.Deep
section
variable {HH:Type} {enc:TypeId × Value→HH} {w:World} {base:Nat} {spare:Nat→Bool} {held:Bool}
end
end

end Go.Proofs.YtabhjdmmfdfpeaaGreatDoor
