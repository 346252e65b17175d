/- Lemmas and contracts of functions, joined for the claim: OpenCap, PrFew, PrOpen. -/
import Derived.Test.YtppehllccdjfkaaGreatDoorGOpen
import Derived.Test.YtppehllccdjfkaaGreatDoorGProD
import Derived.Test.YtppehllccdjfkaaGreatDoorGNest
namespace Go.Proofs.YtppehllccdjfkaaGreatDoor
open Go.ChangeShapes Go.WideShapes Go.ChangeAt Go.RowKit Go.Deep

end Go.Proofs.YtppehllccdjfkaaGreatDoor

namespace Go.Proofs.YtppehllccdjfkaaGreatDoor
open Go.RowKit

end Go.Proofs.YtppehllccdjfkaaGreatDoor

namespace Go.Proofs.YtppehllccdjfkaaGreatDoor
open Go.ChangeShapes Go.WideShapes Go.ChangeAt Go.RowKit Go.Deep

section
variable {HH : Type} {enc : TypeId × Value → HH} {w : World} {base : Nat} {spare : Nat → Bool} {held : Bool}
theorem trod_str {n : Nat} {v : Value} {y : DataW HH × List MemPlace} (h : DataW.trod enc Tryz.prog w base spare held n 9 [v] = some y) : ∃ s, v = .string s ∧ s.size ≤ maxLen := by
  obtain ⟨s, e, _, hw⟩ := DataW.trod_string Tryz.underlying9 h
  simp at e
  exact ⟨s, e, hw⟩
def FC.good (w : World) (f : FC) : Prop := (∃ wl, FW w f wl) ∧ OkI f.bits
end
end Go.Proofs.YtppehllccdjfkaaGreatDoor
