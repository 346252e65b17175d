/- Lemmas and contracts of functions, joined for the claim: CurveChainsFacts. -/
import Derived.Test.YtfehefafgghopaaGreatDoorGLaw
namespace Go.Proofs.YtfehefafgghopaaGreatDoor
open Go.ChangeShapes Go.ChangeMaps Go.WideShapes Go.ChangeAt Go.RowKit

theorem curveChains_facts : joinedFacts Tryz.pinned.checked.prog 8 Tryz.f8 Rows.curveChainsSpec Rows.curveChainsRow = true := by kernel_rfl
end Go.Proofs.YtfehefafgghopaaGreatDoor
