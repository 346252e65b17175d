/- Lemmas and contracts of functions, joined for the claim: CurveChecksFacts. -/
import Derived.Test.YtfehefafgghopaaGreatDoorGLaw
namespace Go.Proofs.YtfehefafgghopaaGreatDoor
open Go.ChangeShapes Go.ChangeMaps Go.WideShapes Go.ChangeAt Go.RowKit

theorem curveChecks_facts : joinedFacts Tryz.pinned.checked.prog 4 Tryz.f4 Rows.curveChecksSpec Rows.curveChecksRow = true := by kernel_rfl
end Go.Proofs.YtfehefafgghopaaGreatDoor
