/- Lemmas and contracts of functions, joined for the claim: CurveFollowsFacts. -/
import Derived.Test.YtfehefafgghopaaGreatDoorGLaw
namespace Go.Proofs.YtfehefafgghopaaGreatDoor
open Go.ChangeShapes Go.ChangeMaps Go.WideShapes Go.ChangeAt Go.RowKit

theorem curveFollows_facts : joinedFacts Tryz.pinned.checked.prog 9 Tryz.f9 Rows.curveFollowsSpec Rows.curveFollowsRow = true := by kernel_rfl
end Go.Proofs.YtfehefafgghopaaGreatDoor
