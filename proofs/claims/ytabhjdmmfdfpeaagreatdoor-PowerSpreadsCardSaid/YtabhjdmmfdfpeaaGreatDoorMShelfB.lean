/- Lemmas. -/
import Derived.Shelf.SlSortCmp.NoneTotal
import Derived.Test.YtabhjdmmfdfpeaaGreatDoorMShelf
namespace Go.Proofs
open Go.Shelf
end Go.Proofs
