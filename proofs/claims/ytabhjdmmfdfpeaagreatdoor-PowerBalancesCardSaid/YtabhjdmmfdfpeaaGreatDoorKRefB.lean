/- Lemmas. -/
import Derived.Test.YtabhjdmmfdfpeaaGreatDoorKRefA
import Derived.Test.YtabhjdmmfdfpeaaGreatDoorKProgC
namespace Go.Proofs.YtabhjdmmfdfpeaaGreatDoor
set_option maxHeartbeats 32000000
open Go.RowKit
variable {x y:Int}
theorem q8j {a:ByteArray} (h:a.data.toList=Lib.itoa x) (hx:Fit x):a.size≤4097:=by
 have h1:=q8f.1 hx;have h2:=qc3 x;rw [← q1y,h];omega
theorem q7e (hx:Fit x) (hy:y≠0):Fit (x.fdiv y):=by
 unfold Fit at *;refine Nat.lt_of_le_of_lt ?_ hx
 by_cases hs:decide (x<0)=decide (y<0)∨x.natAbs % y.natAbs=0
 ·rw [(q7a hy hs).1];exact Nat.div_le_self _ _
 ·have h1:¬ decide (x<0)=decide (y<0):=fun h=>hs (.inl h)
  have h2:0<x.natAbs % y.natAbs:=Nat.pos_of_ne_zero fun h=>hs (.inr h)
  rw [(q7b hy h1 h2).1];have h3:=Nat.div_add_mod x.natAbs y.natAbs;have h4:2≤y.natAbs:=by
   rcases Nat.lt_or_ge y.natAbs 2 with h | h
   ·have:y.natAbs=1:=by omega
    rw [this,Nat.mod_one] at h2;omega
   ·exact h
  have h5:2*(x.natAbs / y.natAbs)≤y.natAbs*(x.natAbs / y.natAbs):=Nat.mul_le_mul_right _ h4;generalize x.natAbs / y.natAbs=q at *;generalize x.natAbs % y.natAbs=r at *;generalize y.natAbs*q=yq at *;omega
theorem q93 (hyf:Fit y) (hy:y≠0):Fit (x.fmod y):=by
 unfold Fit at *;obtain ⟨_,h2,h3⟩:=q7c x hy;generalize x.fmod y=r at *;refine Nat.lt_of_le_of_lt ?_ hyf
 rcases Int.lt_trichotomy y 0 with h | h | h
 ·have:=h3 h;omega
 ·exact absurd h hy
 ·have:=h2 h;omega
theorem qd0 {z:Int} (h:Fit z):longT z=(Lib.itoa z,0):=by unfold longT;rw [if_neg (q8f.1 h)]
end Go.Proofs.YtabhjdmmfdfpeaaGreatDoor
