/- Lemmas and contracts of functions, joined for the claim: CurveBetweenFacts. -/
import Derived.Test.YtfehefafgghopaaGreatDoorGLaw
namespace Go.Proofs.YtfehefafgghopaaGreatDoor
open Go.ChangeShapes Go.ChangeMaps Go.WideShapes Go.ChangeAt Go.RowKit

theorem curveBetween_facts : joinedFacts Tryz.pinned.checked.prog 3 Tryz.f3 Rows.curveBetweenSpec Rows.curveBetweenRow = true := by kernel_rfl
end Go.Proofs.YtfehefafgghopaaGreatDoor
