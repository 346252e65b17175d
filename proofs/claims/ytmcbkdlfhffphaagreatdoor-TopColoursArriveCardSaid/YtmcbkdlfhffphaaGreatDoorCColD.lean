/- Lemmas. -/
import Derived.Test.YtmcbkdlfhffphaaGreatDoorCColC
namespace Go.Proofs.YtmcbkdlfhffphaaGreatDoor
set_option maxHeartbeats 32000000
set_option maxRecDepth 100000
open _root_.Go.Proofs.Tryz

section
open Go.ChangeShapes Go.WideShapes Go.ChangeAt Go.RowKit Go.Deep
section
variable {H:Type} {enc:TypeId × Value→H} {w:World} {base:Nat} {spare:Nat→Bool} {held:Bool}
theorem q0ea {P:Program} {t e:TypeId} {fuel:Nat} {cs:List Value} {x:DataW H × List MemPlace} (ht:P.underlying t=some (.array 3 e)) (hce:P.cellsOf e=1) (hct:P.cellsOf t=3)
  (h:DataW.trod enc P w base spare held fuel t cs=some x) :
  ∃ c0 c1 c2 y0 y1 y2 n,cs=[c0,c1,c2]∧DataW.trod enc P w base spare held n e [c0]=some y0∧DataW.trod enc P w base spare held n e [c1]=some y1∧DataW.trod enc P w base spare held n e [c2]=some y2:=by
 cases fuel with
 | zero=>simp [DataW.trod] at h
 | succ n =>
  unfold DataW.trod at h;rw [ht] at h;have r3:List.range 3=[0,1,2]:=rfl;simp [r3,hce] at h;obtain ⟨hlen,h⟩:=h;have h3:cs.length=3:=by omega
  obtain ⟨c0,c1,c2,rfl⟩:∃ c0 c1 c2,cs=[c0,c1,c2]:=by
   rcases cs with _ | ⟨c0,_ | ⟨c1,_ | ⟨c2,_ | ⟨c3,cs⟩⟩⟩⟩
   ·simp at h3
   ·simp at h3
   ·simp at h3
   ·exact ⟨_,_,_,rfl⟩
   ·simp at h3
  simp at h
  cases h0:DataW.trod enc P w base spare held n e [c0] with
  | none=>simp [h0] at h
  | some y0 =>
   cases h1:DataW.trod enc P w base spare held n e [c1] with
   | none=>simp [h0,h1] at h
   | some y1 =>
    cases h2:DataW.trod enc P w base spare held n e [c2] with
    | none=>simp [h0,h1,h2] at h
    | some y2=>exact ⟨c0,c1,c2,y0,y1,y2,n,rfl,h0,h1,h2⟩
theorem q0db {fuel:Nat} {cs:List Value} {x:DataW H × List MemPlace} (h:DataW.trod enc prog w base spare held fuel 47 cs=some x):∃ g:Int × Int × Int,cs=[.int .u16 g.1,.int .u16 g.2.1,.int .u16 g.2.2]∧((0≤g.1∧g.1≤65535)∧(0≤g.2.1∧g.2.1≤65535)∧0≤g.2.2∧g.2.2≤65535):=by
 obtain ⟨c0,c1,c2,y0,y1,y2,n,rfl,h0,h1,h2⟩:=q0ea underlying47 (by kernel_rfl) (by kernel_rfl) h
 obtain ⟨x0,e0,_,w0⟩:=DataW.trod_int underlying27 h0;obtain ⟨x1,e1,_,w1⟩:=DataW.trod_int underlying27 h1;obtain ⟨x2,e2,_,w2⟩:=DataW.trod_int underlying27 h2;simp at e0 e1 e2;subst e0 e1 e2;exact ⟨(x0,x1,x2),rfl,u16_bd w0,u16_bd w1,u16_bd w2⟩
end
theorem q0e9 (w:World) (g:Int × Int × Int) (hg:(0≤g.1∧g.1≤65535)∧(0≤g.2.1∧g.2.1≤65535)∧0≤g.2.2∧g.2.2≤65535) (white:Bool) (hL:Laid w) :
  Calls prog 4 #[.agg [.int .u16 g.1,.int .u16 g.2.1,.int .u16 g.2.2].toArray,.bool white] w fun e w'=>e=.returned (.bool true)∧Below w.heap.size w w' :=
 q0da w g.1 g.2.1 g.2.2 hg.1 hg.2.1 hg.2.2 white hL.1 hL.2
end

end Go.Proofs.YtmcbkdlfhffphaaGreatDoor
