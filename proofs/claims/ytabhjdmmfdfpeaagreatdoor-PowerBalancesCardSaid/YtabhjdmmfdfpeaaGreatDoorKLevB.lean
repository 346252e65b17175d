/- Lemmas. -/
import Derived.Test.YtabhjdmmfdfpeaaGreatDoorKLevA
namespace Go.Proofs.YtabhjdmmfdfpeaaGreatDoor
set_option maxHeartbeats 32000000
open _root_.Go.Proofs.Tryz
open Go.RowKit
theorem q007 (n:Int) (h₀:0≤n) (h₁:n<2 ^ 16):IntKind.i64.wrap n=n:=by rw [IntKind.wrap_i64];omega
theorem and255 {x:Int} (h0:0≤x) (h1:x≤65535):bits .and .i64 x 255=x % 256:=bits_mask .i64 16 d_ q007 8 d_ x h0 o_
theorem qmm (v:Int) (w:World) :
  Calls prog 160 #[.int .i64 v] w fun e w'=>e=.returned (.bool (decide (0≤v∧v≤65535)))∧w=w':=by
 by_cases h0:0≤v
 ·by_cases h1:v≤65535
  ·rw [decide_eq_true ⟨h0,h1⟩]
   go_enter func160,ntmps160
   go_wp2;go_ret;exact ⟨rfl,rfl⟩
  ·rw [decide_eq_false (fun h=>h1 h.2)]
   go_enter func160,ntmps160
   go_wp2;go_ret;exact ⟨rfl,rfl⟩
 ·rw [decide_eq_false (fun h=>h0 h.1)]
  go_enter func160,ntmps160
  go_wp2;go_ret;exact ⟨rfl,rfl⟩
end Go.Proofs.YtabhjdmmfdfpeaaGreatDoor
