/- Lemmas and contracts of functions, joined for the claim: CurveFlipsFacts. -/
import Derived.Test.YtfehefafgghopaaGreatDoorGLaw
namespace Go.Proofs.YtfehefafgghopaaGreatDoor
open Go.ChangeShapes Go.ChangeMaps Go.WideShapes Go.ChangeAt Go.RowKit

theorem curveFlips_facts : joinedFacts Tryz.pinned.checked.prog 6 Tryz.f6 Rows.curveFlipsSpec Rows.curveFlipsRow = true := by kernel_rfl
end Go.Proofs.YtfehefafgghopaaGreatDoor
