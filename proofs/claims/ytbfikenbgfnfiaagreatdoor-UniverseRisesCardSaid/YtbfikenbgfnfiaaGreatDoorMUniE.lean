/- Lemmas. -/
import Derived.Test.YtbfikenbgfnfiaaGreatDoorMUniD
namespace Go.Proofs.YtbfikenbgfnfiaaGreatDoor
set_option maxHeartbeats 32000000

section
open Go.RowKit
def Fm.at_ (f:Fm) (k:Nat):UInt8:=f.sl.data.toList.getD k 0
end

section
open Go.RowKit
end

section
open Go.ChangeShapes Go.WideShapes Go.ChangeAt Go.RowKit Go.Deep
section
variable {H:Type} {enc:TypeId × Value→H} {w:World} {base:Nat} {spare:Nat→Bool} {held:Bool}
end
end

section
open Go.RowKit
theorem q92 {a b:Fm}:a=b↔a.un=b.un∧a.sl=b.sl:=by
 cases a;cases b
 simp
instance:DecidableEq Fm:=fun a b=>decidable_of_iff (a.un=b.un∧a.sl=b.sl) q92.symm
theorem q2h {a b:Cg}:a=b↔a.un=b.un∧a.ad=b.ad∧a.by_=b.by_:=by
 cases a;cases b
 simp
instance:DecidableEq Cg:=fun a b=>decidable_of_iff (a.un=b.un∧a.ad=b.ad∧a.by_=b.by_) q2h.symm
end

section
open Go.RowKit
end

section
open Go.RowKit
end

end Go.Proofs.YtbfikenbgfnfiaaGreatDoor
