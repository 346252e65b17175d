/- Lemmas and contracts of functions, joined for the claim: GlideReadsFacts. -/
import Derived.Test.YtjnhdimllllgaaaGreatDoorGLaw
namespace Go.Proofs.YtjnhdimllllgaaaGreatDoor
open Go.ChangeShapes Go.ChangeMaps Go.WideShapes Go.ChangeAt Go.RowKit

theorem glideReads_facts : joinedFacts Tryz.pinned.checked.prog 8 Tryz.f8 Rows.glideReadsSpec Rows.glideReadsRow = true := by kernel_rfl
end Go.Proofs.YtjnhdimllllgaaaGreatDoor
