/- Lemmas. -/
import Derived.Test.YtabhjdmmfdfpeaaGreatDoorKUniD
namespace Go.Proofs.YtabhjdmmfdfpeaaGreatDoor
set_option maxHeartbeats 32000000
open Go.RowKit
def Fm.at_ (f:Fm) (k:Nat):UInt8:=f.sl.data.toList.getD k 0
theorem qn6 {w w1:World} {Q base z n:Nat} {c:Array Value} {t e:TypeId} {v:Value} {xs:List Value} (hR:RowAt w Q c t) (ho:w.ownsRow base e z v n xs) (hne:t≠e) (hg:w.grownBy w1 v.ownBlock):RowAt w1 Q c t:=by
 refine (hg.block Q hR.lt fun h=>?_).trans hR
 rcases ho.2 with ⟨rfl,_⟩ | ⟨g,cap,cur,rfl,_,hgg,_⟩
 ·cases h
 ·injection h with h
  subst h;have h':w.heap[Q]? = some (.cells c t (0,0)):=hR;rw [hgg] at h'
  injection h' with h'
  injection h' with _ h2
  exact hne h2.symm
section
open Go.ChangeShapes Go.WideShapes Go.ChangeAt Go.RowKit Go.Deep
section
variable {H:Type} {enc:TypeId × Value→H} {w:World} {base:Nat} {spare:Nat→Bool} {held:Bool}
end
end
theorem q92 {a b:Fm}:a=b↔a.un=b.un∧a.sl=b.sl:=by
 cases a;cases b
 simp
instance:DecidableEq Fm:=fun a b=>decidable_of_iff (a.un=b.un∧a.sl=b.sl) q92.symm
theorem q2h {a b:Cg}:a=b↔a.un=b.un∧a.ad=b.ad∧a.by_=b.by_:=by
 cases a;cases b
 simp
instance:DecidableEq Cg:=fun a b=>decidable_of_iff (a.un=b.un∧a.ad=b.ad∧a.by_=b.by_) q2h.symm
end Go.Proofs.YtabhjdmmfdfpeaaGreatDoor
