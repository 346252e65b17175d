/- Lemmas and contracts of functions, joined for the claim: CIter, CSlope, CInv, CInv2, CAwake. -/
import Derived.Test.YtppehllccdjfkaaGreatDoorGCurveB
import Derived.Test.YtppehllccdjfkaaGreatDoorGProgA
import Derived.Test.YtppehllccdjfkaaGreatDoorGWord
import Derived.StillTailTactics
import Derived.Laws.EntriesVeiled
namespace Go.Proofs.YtppehllccdjfkaaGreatDoor
open Go.RowKit Go.Shelf
attribute [local go_sem] Oper.semAt_some

end Go.Proofs.YtppehllccdjfkaaGreatDoor

namespace Go.Proofs.YtppehllccdjfkaaGreatDoor
open Go.RowKit Go.Shelf
attribute [local go_sem] Oper.semAt_some

end Go.Proofs.YtppehllccdjfkaaGreatDoor

namespace Go.Proofs.YtppehllccdjfkaaGreatDoor
open Go.RowKit

end Go.Proofs.YtppehllccdjfkaaGreatDoor

namespace Go.Proofs.YtppehllccdjfkaaGreatDoor
open Go.RowKit

end Go.Proofs.YtppehllccdjfkaaGreatDoor

namespace Go.Proofs.YtppehllccdjfkaaGreatDoor
open Go.RowKit

theorem num_text (z : Int) (b : ByteArray) (h : b.data.toList = Lib.itoa z) : sR ((z : Int) : Rat) = b := (sR_of (by rw [h]; unfold rT; rw [Rat.den_intCast, if_pos rfl, Rat.num_intCast])).symm
theorem n1 : sR ((1 : Int) : Rat) = ⟨#[49]⟩ := num_text _ _ (by rw [itoa_one])

end Go.Proofs.YtppehllccdjfkaaGreatDoor
