/- Lemmas. -/
import Derived.Test.YtabhjdmmfdfpeaaGreatDoorKUniI
namespace Go.Proofs.YtabhjdmmfdfpeaaGreatDoor
set_option maxHeartbeats 32000000
open Go.RowKit
theorem qft {w:World} {base sz k n c:Nat} {e:TypeId} {A:Option Addr} {xs:List Value} (h:w.ownsRow base e sz (.slice A n c) k xs):n≤c∧c≤9223372036854775807:=by
 obtain ⟨_,⟨h1,_⟩ | ⟨g,cap,cur,h1,_,_,h2,h3,_⟩⟩:=h
 ·cases h1;exact ⟨Nat.le_refl _,Nat.zero_le _⟩
 ·cases h1;exact ⟨h2,h3⟩
end Go.Proofs.YtabhjdmmfdfpeaaGreatDoor
