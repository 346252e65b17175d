/- Lemmas. -/
import Derived.Test.YtabhjdmmfdfpeaaGreatDoorKUniJ
namespace Go.Proofs.YtabhjdmmfdfpeaaGreatDoor
set_option maxHeartbeats 32000000
open Go.RowKit
theorem q023 {w:World} {base:Nat} {e:TypeId} {z:Nat} {g n c:Nat} {xs:List Value} (h:w.ownsRow base e z (.slice (some ⟨g,0,none⟩) n c) n xs):Cells w g xs:=by
 obtain ⟨cur,hc⟩:=qfr h;have hR:RowAt w g cur e:=hc;exact ⟨hR.lt,fun j u hu=>⟨by
  have q:=h.cells (g:=g) rfl j u hu;unfold Addr.add at q
  split at q <;> simp_all,hR.fr j⟩⟩
end Go.Proofs.YtabhjdmmfdfpeaaGreatDoor
