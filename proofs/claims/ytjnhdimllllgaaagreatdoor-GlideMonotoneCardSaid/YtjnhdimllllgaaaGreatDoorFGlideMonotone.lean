/- Lemmas and contracts of functions, joined for the claim: GlideMonotoneFacts. -/
import Derived.Test.YtjnhdimllllgaaaGreatDoorGLaw
namespace Go.Proofs.YtjnhdimllllgaaaGreatDoor
open Go.ChangeShapes Go.ChangeMaps Go.WideShapes Go.ChangeAt Go.RowKit

theorem glideMonotone_facts : joinedFacts Tryz.pinned.checked.prog 6 Tryz.f6 Rows.glideMonotoneSpec Rows.glideMonotoneRow = true := by kernel_rfl
end Go.Proofs.YtjnhdimllllgaaaGreatDoor
