/- Lemmas and contracts of functions, joined for the claim: CIter, CSlope, CInv, CInv2, CAwake. -/
import Derived.Test.YtpinmgoeapakdaaGreatDoorGCurveB
import Derived.Test.YtpinmgoeapakdaaGreatDoorGProgA
import Derived.Test.YtpinmgoeapakdaaGreatDoorGWord
import Derived.StillTailTactics
import Derived.Laws.EntriesVeiled
namespace Go.Proofs.YtpinmgoeapakdaaGreatDoor
open Go.RowKit Go.Shelf
attribute [local go_sem] Oper.semAt_some

end Go.Proofs.YtpinmgoeapakdaaGreatDoor

namespace Go.Proofs.YtpinmgoeapakdaaGreatDoor
open Go.RowKit Go.Shelf
attribute [local go_sem] Oper.semAt_some

end Go.Proofs.YtpinmgoeapakdaaGreatDoor

namespace Go.Proofs.YtpinmgoeapakdaaGreatDoor
open Go.RowKit

end Go.Proofs.YtpinmgoeapakdaaGreatDoor

namespace Go.Proofs.YtpinmgoeapakdaaGreatDoor
open Go.RowKit

end Go.Proofs.YtpinmgoeapakdaaGreatDoor

namespace Go.Proofs.YtpinmgoeapakdaaGreatDoor
open Go.RowKit

theorem num_text (z : Int) (b : ByteArray) (h : b.data.toList = Lib.itoa z) : sR ((z : Int) : Rat) = b := (sR_of (by rw [h]; unfold rT; rw [Rat.den_intCast, if_pos rfl, Rat.num_intCast])).symm
theorem digs5 (z : Int) (h0 : 10000 ≤ z) (h1 : z < 100000) : Lib.itoa z = [dg1 (z.natAbs / 10 / 10 / 10 / 10), dg1 (z.natAbs / 10 / 10 / 10 % 10), dg1 (z.natAbs / 10 / 10 % 10), dg1 (z.natAbs / 10 % 10), dg1 (z.natAbs % 10)] := by rw [itoa_pos' (by omega), dec_big (by omega), dec_big (by omega), dec_big (by omega), dec_big (by omega), dec_small (by omega)]; rfl
theorem n1 : sR ((1 : Int) : Rat) = ⟨#[49]⟩ := num_text _ _ (by rw [itoa_one])

end Go.Proofs.YtpinmgoeapakdaaGreatDoor
