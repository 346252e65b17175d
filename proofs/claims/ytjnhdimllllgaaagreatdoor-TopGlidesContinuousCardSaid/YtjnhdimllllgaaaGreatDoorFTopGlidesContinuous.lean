/- Lemmas and contracts of functions, joined for the claim: TopGlidesContinuousFacts. -/
import Derived.Test.YtjnhdimllllgaaaGreatDoorGLaw
namespace Go.Proofs.YtjnhdimllllgaaaGreatDoor
open Go.ChangeShapes Go.ChangeMaps Go.WideShapes Go.ChangeAt Go.RowKit

theorem topGlidesContinuous_facts : joinedFacts Tryz.pinned.checked.prog 11 Tryz.f11 Rows.topGlidesContinuousSpec Rows.topGlidesContinuousRow = true := by kernel_rfl
end Go.Proofs.YtjnhdimllllgaaaGreatDoor
