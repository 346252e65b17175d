/- Lemmas and contracts of functions, joined for the claim: GlideBendsFacts. -/
import Derived.Test.YtjnhdimllllgaaaGreatDoorGLaw
namespace Go.Proofs.YtjnhdimllllgaaaGreatDoor
open Go.ChangeShapes Go.ChangeMaps Go.WideShapes Go.ChangeAt Go.RowKit

theorem glideBends_facts : joinedFacts Tryz.pinned.checked.prog 9 Tryz.f9 Rows.glideBendsSpec Rows.glideBendsRow = true := by kernel_rfl
end Go.Proofs.YtjnhdimllllgaaaGreatDoor
