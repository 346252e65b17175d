/- Lemmas. -/
import Derived.Test.YtabhjdmmfdfpeaaGreatDoorMCurveC
import Derived.Test.YtabhjdmmfdfpeaaGreatDoorMOpen
namespace Go.Proofs.YtabhjdmmfdfpeaaGreatDoor
set_option maxHeartbeats 32000000

section
open Go.RowKit
structure Hd where
 A:Option Addr
 n:Nat
 c:Nat
def shH:Sh Hd:=⟨1,fun h=>[.slice h.A h.n h.c],fun _=>rfl,fun a=>by simp;rfl⟩
def InN (w:World) (A:Option Addr) (n:Nat) (H:List Hd) (L:List (List PT)):Prop :=
 shH.In w A n H∧H.length=L.length∧∀ i (h:i<H.length) (h':i<L.length),shP.In w H[i].A H[i].n L[i]
theorem InN.below {w w':World} {A:Option Addr} {n:Nat} {H:List Hd} {L:List (List PT)} (h:InN w A n H L) (hb:Below w.heap.size w w'):InN w' A n H L :=
 ⟨h.1.below hb,h.2.1,fun i h1 h2=>(h.2.2 i h1 h2).below hb⟩
theorem hd_at {w:World} {A:Option Addr} {n:Nat} {l:List Hd} (h:shH.In w A n l) (h0:0<l.length) :
  ∃ b o,A=some ⟨b,o,none⟩∧b<w.heap.size∧∀ k (hk:k<l.length),w.cell? ⟨b,o+k,none⟩=some (.slice l[k].A l[k].n l[k].c):=by
 obtain ⟨b,o,e,hb,hc⟩:=h.at_ h0
 exact ⟨b,o,e,hb,fun k hk=>by have:=hc k hk 0 _ (by decide) rfl;rw [show o+k*shH.z+0=o+k from by show o+k*1+0=o+k;omega] at this;exact this⟩
end

section
open Go.ChangeShapes Go.WideShapes Go.ChangeAt Go.RowKit Go.Deep
section
variable {HH:Type} {enc:TypeId × Value→HH} {w:World} {base:Nat} {spare:Nat→Bool} {held:Bool}
end
end

end Go.Proofs.YtabhjdmmfdfpeaaGreatDoor
