/- Lemmas and contracts of functions, joined for the claim: GlideChainsFacts. -/
import Derived.Test.YtjnhdimllllgaaaGreatDoorGLaw
namespace Go.Proofs.YtjnhdimllllgaaaGreatDoor
open Go.ChangeShapes Go.ChangeMaps Go.WideShapes Go.ChangeAt Go.RowKit

theorem glideChains_facts : joinedFacts Tryz.pinned.checked.prog 4 Tryz.f4 Rows.glideChainsSpec Rows.glideChainsRow = true := by kernel_rfl
end Go.Proofs.YtjnhdimllllgaaaGreatDoor
