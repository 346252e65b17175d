/- Lemmas and contracts of functions, joined for the claim: TopGlidesRawFacts. -/
import Derived.Test.YtjnhdimllllgaaaGreatDoorGLaw
namespace Go.Proofs.YtjnhdimllllgaaaGreatDoor
open Go.ChangeShapes Go.ChangeMaps Go.WideShapes Go.ChangeAt Go.RowKit

theorem topGlidesRaw_facts : joinedFacts Tryz.pinned.checked.prog 10 Tryz.f10 Rows.topGlidesRawSpec Rows.topGlidesRawRow = true := by kernel_rfl
end Go.Proofs.YtjnhdimllllgaaaGreatDoor
