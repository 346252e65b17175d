/- Lemmas and contracts of functions, joined for the claim: OpenCap, PrFew, PrOpen. -/
import Derived.Test.YtbfikenbgfnfiaaGreatDoorKOpen
import Derived.Test.YtbfikenbgfnfiaaGreatDoorKProD
import Derived.Test.YtbfikenbgfnfiaaGreatDoorKNest
namespace Go.Proofs.YtbfikenbgfnfiaaGreatDoor
set_option maxHeartbeats 32000000

section
open Go.ChangeShapes Go.WideShapes Go.ChangeAt Go.RowKit Go.Deep
end

section
open Go.RowKit
def fewP (name:ByteArray) (L:List Fea):Bool:=decide (L.length≤40) && decide (name.size≤100) && L.all fun f=>decide (f.wh.length≤40)
end

section
open Go.ChangeShapes Go.WideShapes Go.ChangeAt Go.RowKit Go.Deep
section
variable {HH:Type} {enc:TypeId × Value→HH} {w:World} {base:Nat} {spare:Nat→Bool} {held:Bool}
end
end

end Go.Proofs.YtbfikenbgfnfiaaGreatDoor
