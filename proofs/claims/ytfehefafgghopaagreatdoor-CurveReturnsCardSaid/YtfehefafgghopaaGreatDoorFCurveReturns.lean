/- Lemmas and contracts of functions, joined for the claim: CurveReturnsFacts. -/
import Derived.Test.YtfehefafgghopaaGreatDoorGLaw
namespace Go.Proofs.YtfehefafgghopaaGreatDoor
open Go.ChangeShapes Go.ChangeMaps Go.WideShapes Go.ChangeAt Go.RowKit

theorem curveReturns_facts : joinedFacts Tryz.pinned.checked.prog 5 Tryz.f5 Rows.curveReturnsSpec Rows.curveReturnsRow = true := by kernel_rfl
end Go.Proofs.YtfehefafgghopaaGreatDoor
