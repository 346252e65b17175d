/- Lemmas and contracts of functions, joined for the claim: GlideLevelsFacts. -/
import Derived.Test.YtjnhdimllllgaaaGreatDoorGLaw
namespace Go.Proofs.YtjnhdimllllgaaaGreatDoor
open Go.ChangeShapes Go.ChangeMaps Go.WideShapes Go.ChangeAt Go.RowKit

theorem glideLevels_facts : joinedFacts Tryz.pinned.checked.prog 7 Tryz.f7 Rows.glideLevelsSpec Rows.glideLevelsRow = true := by kernel_rfl
end Go.Proofs.YtjnhdimllllgaaaGreatDoor
