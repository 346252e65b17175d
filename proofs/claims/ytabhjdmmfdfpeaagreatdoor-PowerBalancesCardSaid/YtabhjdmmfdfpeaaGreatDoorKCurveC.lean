/- Lemmas. -/
import Derived.Test.YtabhjdmmfdfpeaaGreatDoorKCurveB
import Derived.Laws.EntriesVeiled
namespace Go.Proofs.YtabhjdmmfdfpeaaGreatDoor
set_option maxHeartbeats 32000000
open Go.RowKit
section
open Go.RowKit Go.Shelf
attribute [local go_sem] Oper.semAt_some
end
section
open Go.RowKit Go.Shelf
attribute [local go_sem] Oper.semAt_some
end
theorem qez (z:Int) (b:ByteArray) (h:b.data.toList=Lib.itoa z):sR ((z:Int):Rat)=b:=(sR_of (by rw [h];unfold rT;rw [Rat.den_intCast,if_pos rfl,Rat.num_intCast])).symm
theorem n1:sR ((1:Int):Rat)=⟨#[49]⟩:=qez _ _ (by rw [qc9])
end Go.Proofs.YtabhjdmmfdfpeaaGreatDoor
