/- Lemmas. -/
import Derived.Test.YtmcbkdlfhffphaaGreatDoorMLaw
namespace Go.Proofs.YtmcbkdlfhffphaaGreatDoor
set_option maxHeartbeats 32000000
open _root_.Go.Proofs.Tryz

section
open Go.ChangeShapes Go.ChangeMaps Go.WideShapes Go.ChangeAt Go.RowKit
theorem q0j {a b:Bool} (ha:a=true) (hb:b=true):(a && b)=true:=by rw [ha,hb];rfl
theorem q0ag:(Rows.topSlotsAreSharedRow.wf (OpenSpec.ofChange Rows.topSlotsAreSharedSpec))=true:=by kernel_rfl
theorem q0ah:(laidOutB Tryz.pinned.checked.prog)=true:=by kernel_rfl
theorem q0as:(mapsRowed Tryz.pinned.checked.prog)=true:=by kernel_rfl
theorem q0b3:(f3.params.all (Tryz.pinned.checked.prog.readableRec ·))=true:=by kernel_rfl
theorem q0b6:(namedTie Tryz.pinned.checked.prog Rows.topSlotsAreSharedRow.named Rows.topSlotsAreSharedSpec.vars)=true:=by kernel_rfl
theorem q0b7:((Rows.topSlotsAreSharedRow.stops == []))=true:=by kernel_rfl
theorem q0b8:((Tryz.pinned.checked.prog.stops == []))=true:=by kernel_rfl
theorem q0b9:((Rows.topSlotsAreSharedRow.knobs == []))=true:=by kernel_rfl
theorem q0ba:((Tryz.pinned.checked.prog.stopKnobs == []))=true:=by kernel_rfl
theorem q0bb:((Rows.topSlotsAreSharedRow.inPlace == Tryz.pinned.checked.prog.inPlace 3))=true:=by kernel_rfl
theorem q0ai:((Rows.topSlotsAreSharedRow.unfollowed == Tryz.pinned.checked.prog.unfollowed 3))=true:=by kernel_rfl
theorem q0aj:((Rows.topSlotsAreSharedRow.recurses == Tryz.pinned.checked.prog.recurses 3))=true:=by kernel_rfl
theorem q0ak:((Rows.topSlotsAreSharedRow.named == Tryz.pinned.checked.prog.varsNamed 3))=true:=by kernel_rfl
theorem q0al:((Rows.topSlotsAreSharedRow.maps == (f3.params.toList ++ Rows.topSlotsAreSharedSpec.plain.varTypes Tryz.pinned.checked.prog).any (Tryz.pinned.checked.prog.mapsRec ·)))=true:=by kernel_rfl
theorem q0am:((Rows.topSlotsAreSharedRow.ifaces == (f3.params.toList ++ Rows.topSlotsAreSharedSpec.plain.varTypes Tryz.pinned.checked.prog).any (Tryz.pinned.checked.prog.ifacesRec ·)))=true:=by kernel_rfl
theorem q0an:((Rows.topSlotsAreSharedRow.mapsOut == Tryz.pinned.checked.prog.mapsAmong f3.resultTypes.toList))=true:=by kernel_rfl
theorem q0ao:((Rows.topSlotsAreSharedRow.loops == (f3.params.toList ++ Rows.topSlotsAreSharedSpec.plain.varTypes Tryz.pinned.checked.prog).any (Tryz.pinned.checked.prog.loopsFrom ·)))=true:=by kernel_rfl
theorem q0ap:((Rows.topSlotsAreSharedRow.wideKeys == (f3.params.toList ++ Rows.topSlotsAreSharedSpec.plain.varTypes Tryz.pinned.checked.prog ++ f3.resultTypes.toList).any (Tryz.pinned.checked.prog.wideKeysFrom ·)))=true:=by kernel_rfl
theorem q0aq:(Rows.topSlotsAreSharedSpec.vars.all (Tryz.pinned.checked.prog.varReadable ·))=true:=by kernel_rfl
theorem q0ar:(f3.resultTypes.all (fun t=>Tryz.pinned.checked.prog.readableRec t && decide (t<Tryz.pinned.checked.prog.types.size)))=true:=by kernel_rfl
theorem q0at:((Rows.topSlotsAreSharedRow.ifacesOut == f3.resultTypes.toList.any (Tryz.pinned.checked.prog.ifacesRec ·)))=true:=by kernel_rfl
theorem q0au:((Rows.topSlotsAreSharedRow.loopsOut == f3.resultTypes.toList.any (Tryz.pinned.checked.prog.loopsFrom ·)))=true:=by kernel_rfl
theorem q0av:((Rows.topSlotsAreSharedRow.plainKeys == Tryz.pinned.checked.prog.plainKeys))=true:=by kernel_rfl
theorem q0aw:(Rows.topSlotsAreSharedRow.shortTexts.isNone)=true:=by kernel_rfl
theorem q0ax:(Tryz.pinned.checked.prog.stopsHeard)=true:=by kernel_rfl
theorem q0ay:(Tryz.pinned.checked.prog.mayEnter)=true:=by kernel_rfl
theorem q0az:((Rows.topSlotsAreSharedRow.lifted == Tryz.pinned.checked.prog.liftsFinal))=true:=by kernel_rfl
theorem q0b0:((Tryz.pinned.checked.prog.make == some Rows.topSlotsAreSharedRow.make))=true:=by kernel_rfl
theorem q0b1:((Rows.topSlotsAreSharedRow.kinds == (if Rows.topSlotsAreSharedRow.domain.isEmpty then [] else f3.params.toList.map fun t=>match Tryz.pinned.checked.prog.underlying t with | some (.int k)=>some k | _=>none)))=true:=by kernel_rfl
theorem q0b2:((Rows.topSlotsAreSharedRow.pinned == Rows.topSlotsAreSharedRow.pinnedBy))=true:=by kernel_rfl
theorem q0b4:((Rows.topSlotsAreSharedRow.veiled == (f3.params.toList ++ Rows.topSlotsAreSharedSpec.plain.varTypes Tryz.pinned.checked.prog ++ f3.resultTypes.toList).any (Tryz.pinned.checked.prog.veiledRec ·)))=true:=by kernel_rfl
theorem q0b5:(Rows.topSlotsAreSharedRow.veiledFits Tryz.pinned.checked.prog f3.params.toList (f3.params.toList ++ Rows.topSlotsAreSharedSpec.plain.varTypes Tryz.pinned.checked.prog ++ f3.resultTypes.toList))=true:=by kernel_rfl
set_option maxRecDepth 100000 in
theorem q0bc:joinedFacts Tryz.pinned.checked.prog 3 f3 Rows.topSlotsAreSharedSpec Rows.topSlotsAreSharedRow=true:=by
 unfold joinedFacts;exact (q0j (q0j (q0j (q0j (q0j (q0j (q0j (q0j (q0j (q0j (q0j (q0j (q0j (q0j (q0j (q0j (q0j (q0j (q0j (q0j (q0j (q0j (q0j (q0j (q0j (q0j (q0j (q0j (q0j (q0j (q0j q0ag q0ah) q0as) q0b3) q0b6) q0b7) q0b8) q0b9) q0ba) q0bb) q0ai) q0aj) q0ak) q0al) q0am) q0an) q0ao) q0ap) q0aq) q0ar) q0at) q0au) q0av) q0aw) q0ax) q0ay) q0az) q0b0) q0b1) q0b2) q0b4) q0b5)
end

end Go.Proofs.YtmcbkdlfhffphaaGreatDoor
