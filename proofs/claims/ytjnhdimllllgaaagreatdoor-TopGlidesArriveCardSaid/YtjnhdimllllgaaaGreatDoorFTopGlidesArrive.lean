/- Lemmas and contracts of functions, joined for the claim: TopGlidesArriveFacts. -/
import Derived.Test.YtjnhdimllllgaaaGreatDoorGLaw
namespace Go.Proofs.YtjnhdimllllgaaaGreatDoor
open Go.ChangeShapes Go.ChangeMaps Go.WideShapes Go.ChangeAt Go.RowKit

theorem topGlidesArrive_facts : joinedFacts Tryz.pinned.checked.prog 12 Tryz.f12 Rows.topGlidesArriveSpec Rows.topGlidesArriveRow = true := by kernel_rfl
end Go.Proofs.YtjnhdimllllgaaaGreatDoor
