/- Lemmas and contracts of functions, joined for the claim: GlideGoesFacts. -/
import Derived.Test.YtjnhdimllllgaaaGreatDoorGLaw
namespace Go.Proofs.YtjnhdimllllgaaaGreatDoor
open Go.ChangeShapes Go.ChangeMaps Go.WideShapes Go.ChangeAt Go.RowKit

theorem glideGoes_facts : joinedFacts Tryz.pinned.checked.prog 3 Tryz.f3 Rows.glideGoesSpec Rows.glideGoesRow = true := by kernel_rfl
end Go.Proofs.YtjnhdimllllgaaaGreatDoor
