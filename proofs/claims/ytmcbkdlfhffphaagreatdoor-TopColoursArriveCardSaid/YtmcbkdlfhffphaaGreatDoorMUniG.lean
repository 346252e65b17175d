/- Lemmas. -/
import Derived.Test.YtmcbkdlfhffphaaGreatDoorMTake
import Derived.Test.YtmcbkdlfhffphaaGreatDoorMUniE
namespace Go.Proofs.YtmcbkdlfhffphaaGreatDoor
set_option maxHeartbeats 32000000
open _root_.Go.Proofs.Tryz

section
open Go.ChangeShapes Go.WideShapes Go.ChangeAt Go.RowKit Go.Deep
section
variable {H:Type} {enc:TypeId × Value→H} {w:World} {base:Nat} {spare:Nat→Bool} {held:Bool}
set_option maxRecDepth 100000 in
theorem q0x {t e:TypeId} {n b0:Nat} (ht:prog.underlying t=some (.array n e)) {v:Value} {d:DataW H} {p:List MemPlace} (hv:Value.okWide prog w .any b0 t v) (h:DataW.Trod enc prog w base spare held t v d p) :
  ∃ (cs:List Value) (fuel:Nat) (x:DataW H × List MemPlace),v=.agg cs.toArray∧DataW.trod enc prog w base spare held fuel t cs=some x:=by
 simp only [Value.okWide,ht] at hv;obtain ⟨cs,rfl,_⟩:=hv;obtain ⟨fuel,hf⟩:=h;exact ⟨cs.toList,fuel,_,rfl,hf⟩
theorem u16_bd {x:Int} (h:(Lit.int .u16 x).wf=true):0≤x∧x≤65535:=by
 simpa [Lit.wf,IntKind.min,IntKind.max,IntKind.bits,IntKind.signed] using h
end
end

section
open Go.RowKit
end

section
open Go.RowKit
end

section
open Go.RowKit
end

section
open Go.RowKit
end

section
open Go.ChangeShapes Go.WideShapes Go.ChangeAt Go.RowKit Go.Deep
section
variable {HH:Type} {enc:TypeId × Value→HH} {w:World} {base:Nat} {spare:Nat→Bool} {held:Bool}
end
end

section
open Go.ChangeShapes Go.WideShapes Go.ChangeAt Go.RowKit Go.Deep
section
variable {HH:Type} {enc:TypeId × Value→HH} {w:World} {base:Nat} {spare:Nat→Bool} {held:Bool}
end
end

section
open Go.RowKit
end

end Go.Proofs.YtmcbkdlfhffphaaGreatDoor
