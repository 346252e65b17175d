/- A call by a contract whose world may be that in front of an allocation. -/
import Derived.Test.YtabhjdmmfdfpeaaGreatDoorKWord
namespace Go.Proofs.YtabhjdmmfdfpeaaGreatDoor
open Go.RowKit
theorem uq_ {P:Program} {f:Nat} {args:Array Value} {w w1 w0:World} {r:Ending} {Q:Ending→World→Prop} (h:Calls P f args w fun e w'=>e=r∧Below w1.heap.size w1 w') (hB:Below w0.heap.size w0 w1) (k:∀ w',Below w0.heap.size w0 w'→Q r w'):Calls P f args w Q:=h.mono (by
 rintro e w' ⟨rfl,hb⟩
 exact k w' (hB.trans (hb.mono hB.size)))
end Go.Proofs.YtabhjdmmfdfpeaaGreatDoor
