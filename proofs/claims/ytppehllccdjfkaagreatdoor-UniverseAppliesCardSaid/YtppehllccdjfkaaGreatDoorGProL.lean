/- Lemmas and contracts of functions, joined for the claim: PrCheck3. -/
import Derived.Test.YtppehllccdjfkaaGreatDoorGProK
namespace Go.Proofs.YtppehllccdjfkaaGreatDoor
open Go.RowKit

end Go.Proofs.YtppehllccdjfkaaGreatDoor
