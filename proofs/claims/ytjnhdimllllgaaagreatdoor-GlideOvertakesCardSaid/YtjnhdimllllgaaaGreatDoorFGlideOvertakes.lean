/- Lemmas and contracts of functions, joined for the claim: GlideOvertakesFacts. -/
import Derived.Test.YtjnhdimllllgaaaGreatDoorGLaw
namespace Go.Proofs.YtjnhdimllllgaaaGreatDoor
open Go.ChangeShapes Go.ChangeMaps Go.WideShapes Go.ChangeAt Go.RowKit

theorem glideOvertakes_facts : joinedFacts Tryz.pinned.checked.prog 5 Tryz.f5 Rows.glideOvertakesSpec Rows.glideOvertakesRow = true := by kernel_rfl
end Go.Proofs.YtjnhdimllllgaaaGreatDoor
