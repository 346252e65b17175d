/- Lemmas. -/
import Derived.Test.YtabhjdmmfdfpeaaGreatDoorMLevA
namespace Go.Proofs.YtabhjdmmfdfpeaaGreatDoor
set_option maxHeartbeats 32000000

section
open Go.RowKit
end

section
open Go.RowKit
end

section
open Go.RowKit
theorem q007 (n:Int) (h₀:0≤n) (h₁:n<2 ^ 16):IntKind.i64.wrap n=n:=by rw [IntKind.wrap_i64];omega
theorem and255 {x:Int} (h0:0≤x) (h1:x≤65535):bits .and .i64 x 255=x % 256:=bits_mask .i64 16 (by decide) q007 8 (by decide) x h0 (by omega)
end

end Go.Proofs.YtabhjdmmfdfpeaaGreatDoor
