/- Lemmas and contracts of functions, joined for the claim: UAPlain, URef13d, UApply1, UApply2, URef13k, UOpen2. -/
import Derived.Test.YtbfikenbgfnfiaaGreatDoorKUniD
import Derived.Test.YtbfikenbgfnfiaaGreatDoorKUniC
import Derived.Test.YtbfikenbgfnfiaaGreatDoorKUniE
import Derived.Test.YtbfikenbgfnfiaaGreatDoorKOpen
import Derived.Test.YtbfikenbgfnfiaaGreatDoorKUniA
import Derived.StillTailTactics
import Derived.Deep.RegionHeld3
namespace Go.Proofs.YtbfikenbgfnfiaaGreatDoor
set_option maxHeartbeats 32000000

section
open Go.RowKit
def RgL (l:List Fm):Prop:=l.Pairwise (fun f g=>f.un<g.un)∧∀ x ∈ l,1≤x.un∧x.un≤8∧x.sl.size=512
end

section
open Go.RowKit
end

section
open Go.RowKit
end

section
open Go.RowKit
end

section
open Go.ChangeShapes Go.WideShapes Go.ChangeAt Go.RowKit Go.Deep
section
variable {H:Type} {enc:TypeId × Value→H} {w:World} {base:Nat} {spare:Nat→Bool} {held:Bool}
end
end

section
open Go.RowKit
end

end Go.Proofs.YtbfikenbgfnfiaaGreatDoor
