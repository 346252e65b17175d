/- Lemmas and contracts of functions, joined for the claim: URef12b, URef13e, URef13f, URef13g, URef13h, OpenA, UOpen3, UOpen4. -/
import Derived.Test.YtbfikenbgfnfiaaGreatDoorKOpen
import Derived.Laws.IdiomArrays
import Derived.Test.YtbfikenbgfnfiaaGreatDoorKTake
import Derived.Test.YtbfikenbgfnfiaaGreatDoorKUniA
import Derived.Deep.RegionHeld3
import Derived.StillTailTactics
import Derived.Test.YtbfikenbgfnfiaaGreatDoorKUniC
import Derived.Test.YtbfikenbgfnfiaaGreatDoorKProE
import Derived.Test.YtbfikenbgfnfiaaGreatDoorKProL
import Derived.Test.YtbfikenbgfnfiaaGreatDoorKUniD
import Derived.Test.YtbfikenbgfnfiaaGreatDoorKProK
import Derived.Test.YtbfikenbgfnfiaaGreatDoorKUniE
import Derived.Test.YtbfikenbgfnfiaaGreatDoorKGlide
namespace Go.Proofs.YtbfikenbgfnfiaaGreatDoor
set_option maxHeartbeats 32000000

section
open Go.ChangeShapes Go.WideShapes Go.ChangeAt Go.RowKit Go.Deep
section
variable {H:Type} {enc:TypeId × Value→H} {w:World} {base:Nat} {spare:Nat→Bool} {held:Bool}
theorem u16_bd {x:Int} (h:(Lit.int .u16 x).wf=true):0≤x∧x≤65535:=by
 simpa [Lit.wf,IntKind.min,IntKind.max,IntKind.bits,IntKind.signed] using h
end
end

section
open Go.RowKit
end

section
open Go.RowKit
def fewRg (L:List (List PT)) (PL:List (PC × List Fea)) (n:Nat):Bool:=decide (PL.length≤40) && decide (n≤70) && fewAll L && PL.all fun x=>fewP x.1.s x.2
theorem q7x {L:List (List PT)} {PL:List (PC × List Fea)} {n:Nat} (h:fewRg L PL n=true):PL.length≤40∧n≤70∧fewAll L=true∧∀ x ∈ PL,fewP x.1.s x.2=true:=by
 unfold fewRg at h;rw [Bool.and_eq_true,Bool.and_eq_true,Bool.and_eq_true,List.all_eq_true] at h;exact ⟨of_decide_eq_true h.1.1.1,of_decide_eq_true h.1.1.2,h.1.2,h.2⟩
def InR (w:World) (A:Option Addr) (n:Nat) (PL:List (PC × List Fea)):Prop :=
 shPr.In w A n (PL.map Prod.fst)∧∀ x ∈ PL,(∃ H,InF w x.1.A x.1.n H x.2∧∀ i (h:i<H.length) (h':i<x.2.length),FW w H[i] x.2[i].wh)∧x.1.n≤9223372036854775807
theorem InR.below {w w':World} {A:Option Addr} {n:Nat} {PL:List (PC × List Fea)} (h:InR w A n PL) (hb:Below w.heap.size w w'):InR w' A n PL :=
 ⟨h.1.below hb,fun x hx=>⟨(h.2 x hx).1.imp fun _ hi=>⟨hi.1.below hb,fun i h1 h2=>(hi.2 i h1 h2).below hb⟩,(h.2 x hx).2⟩⟩
theorem q7s {s:ByteArray} {l:List Fea} (h:fewP s l=true):l.length≤40:=by
 unfold fewP at h;rw [Bool.and_eq_true,Bool.and_eq_true] at h;exact of_decide_eq_true h.1.1
theorem InR.few {w:World} {A:Option Addr} {n m:Nat} {L:List (List PT)} {PL:List (PC × List Fea)} (h:InR w A n PL) (hf:fewRg L PL m=true):InPs w A n PL :=
 ⟨h.1,fun x hx=>by
  obtain ⟨⟨H,h1,h2⟩,h3⟩:=h.2 x hx;have h4:=q7s ((q7x hf).2.2.2 x hx);have h5:=h1.1.1;have h6:=h1.2.1;exact ⟨H,h1,by omega,h2⟩⟩
end

section
open Go.RowKit
end

section
open Go.RowKit
def PsOK (PL:List (PC × List Fea)):Prop:=∀ x ∈ PL,x.1.n≤x.1.c∧x.1.c≤9223372036854775807∧x.1.s.size≤9223372036854775807
end

section
open Go.ChangeShapes Go.WideShapes Go.ChangeAt Go.RowKit Go.Deep
structure RG where
 A0:Option Addr
 n0:Nat
 d0:Nat
 A1:Option Addr
 n1:Nat
 d1:Nat
 A2:Option Addr
 n2:Nat
 d2:Nat
def RG.Is (w:World) (g:RG) (H:List Hd) (L:List (List PT)) (PL:List (PC × List Fea)) (X:List Fx):Prop :=
 (InN w g.A0 g.n0 H L∧(∀ h ∈ H,h.n≤9223372036854775807)∧g.n0≤9223372036854775807)∧(InR w g.A1 g.n1 PL∧PsOK PL∧g.n1≤g.d1∧g.d1≤9223372036854775807)∧shX.In w g.A2 g.n2 X∧(g.n2≤g.d2∧g.d2≤9223372036854775807)∧∀ x ∈ X,x.cb.size≤9223372036854775807
section
variable {HH:Type} {enc:TypeId × Value→HH} {w:World} {base:Nat} {spare:Nat→Bool} {held:Bool}
end
theorem RG.Is.below {w w':World} {g:RG} {H:List Hd} {L:List (List PT)} {PL:List (PC × List Fea)} {X:List Fx} (h:g.Is w H L PL X) (hb:Below w.heap.size w w'):g.Is w' H L PL X :=
 ⟨⟨h.1.1.below hb,h.1.2⟩,⟨h.2.1.1.below hb,h.2.1.2⟩,h.2.2.1.below hb,h.2.2.2⟩
end

section
open Go.ChangeShapes Go.WideShapes Go.ChangeAt Go.RowKit Go.Deep
section
variable {HH:Type} {enc:TypeId × Value→HH} {w:World} {base:Nat} {spare:Nat→Bool} {held:Bool}
end
end

section
open Go.RowKit
end

end Go.Proofs.YtbfikenbgfnfiaaGreatDoor
