/- Lemmas. -/
import Derived.Shelf.SlSortCmp.NoneTotal
import Derived.Test.YtmcbkdlfhffphaaGreatDoorProg
namespace Go.Proofs
open Go.Shelf
end Go.Proofs
