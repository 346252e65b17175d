/- Lemmas and contracts of functions, joined for the claim: CurveChangesFacts. -/
import Derived.Test.YtfehefafgghopaaGreatDoorGLaw
namespace Go.Proofs.YtfehefafgghopaaGreatDoor
open Go.ChangeShapes Go.ChangeMaps Go.WideShapes Go.ChangeAt Go.RowKit

theorem curveChanges_facts : joinedFacts Tryz.pinned.checked.prog 7 Tryz.f7 Rows.curveChangesSpec Rows.curveChangesRow = true := by kernel_rfl
end Go.Proofs.YtfehefafgghopaaGreatDoor
