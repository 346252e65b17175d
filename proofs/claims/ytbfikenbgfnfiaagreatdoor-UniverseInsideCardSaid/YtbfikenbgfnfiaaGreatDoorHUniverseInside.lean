/- Lemmas and contracts of functions, joined for the claim: UniverseInsideFacts. -/
import Derived.Test.YtbfikenbgfnfiaaGreatDoorMLaw
namespace Go.Proofs.YtbfikenbgfnfiaaGreatDoor
set_option maxHeartbeats 32000000
open _root_.Go.Proofs.Tryz

section
open Go.ChangeShapes Go.ChangeMaps Go.WideShapes Go.ChangeAt Go.RowKit
theorem q0j {a b:Bool} (ha:a=true) (hb:b=true):(a && b)=true:=by rw [ha,hb];rfl
theorem qv8:(Rows.universeInsideRow.wf (OpenSpec.ofChange Rows.universeInsideSpec))=true:=by kernel_rfl
theorem qv9:(laidOutB Tryz.pinned.checked.prog)=true:=by kernel_rfl
theorem qvk:(mapsRowed Tryz.pinned.checked.prog)=true:=by kernel_rfl
theorem qvv:(f6.params.all (Tryz.pinned.checked.prog.readableRec ·))=true:=by kernel_rfl
theorem qvy:(namedTie Tryz.pinned.checked.prog Rows.universeInsideRow.named Rows.universeInsideSpec.vars)=true:=by kernel_rfl
theorem qvz:((Rows.universeInsideRow.stops == []))=true:=by kernel_rfl
theorem qw0:((Tryz.pinned.checked.prog.stops == []))=true:=by kernel_rfl
theorem qw1:((Rows.universeInsideRow.knobs == []))=true:=by kernel_rfl
theorem qw2:((Tryz.pinned.checked.prog.stopKnobs == []))=true:=by kernel_rfl
theorem qw3:((Rows.universeInsideRow.inPlace == Tryz.pinned.checked.prog.inPlace 6))=true:=by kernel_rfl
theorem qva:((Rows.universeInsideRow.unfollowed == Tryz.pinned.checked.prog.unfollowed 6))=true:=by kernel_rfl
theorem qvb:((Rows.universeInsideRow.recurses == Tryz.pinned.checked.prog.recurses 6))=true:=by kernel_rfl
theorem qvc:((Rows.universeInsideRow.named == Tryz.pinned.checked.prog.varsNamed 6))=true:=by kernel_rfl
theorem qvd:((Rows.universeInsideRow.maps == (f6.params.toList ++ Rows.universeInsideSpec.plain.varTypes Tryz.pinned.checked.prog).any (Tryz.pinned.checked.prog.mapsRec ·)))=true:=by kernel_rfl
theorem qve:((Rows.universeInsideRow.ifaces == (f6.params.toList ++ Rows.universeInsideSpec.plain.varTypes Tryz.pinned.checked.prog).any (Tryz.pinned.checked.prog.ifacesRec ·)))=true:=by kernel_rfl
theorem qvf:((Rows.universeInsideRow.mapsOut == Tryz.pinned.checked.prog.mapsAmong f6.resultTypes.toList))=true:=by kernel_rfl
theorem qvg:((Rows.universeInsideRow.loops == (f6.params.toList ++ Rows.universeInsideSpec.plain.varTypes Tryz.pinned.checked.prog).any (Tryz.pinned.checked.prog.loopsFrom ·)))=true:=by kernel_rfl
theorem qvh:((Rows.universeInsideRow.wideKeys == (f6.params.toList ++ Rows.universeInsideSpec.plain.varTypes Tryz.pinned.checked.prog ++ f6.resultTypes.toList).any (Tryz.pinned.checked.prog.wideKeysFrom ·)))=true:=by kernel_rfl
theorem qvi:(Rows.universeInsideSpec.vars.all (Tryz.pinned.checked.prog.varReadable ·))=true:=by kernel_rfl
theorem qvj:(f6.resultTypes.all (fun t=>Tryz.pinned.checked.prog.readableRec t && decide (t<Tryz.pinned.checked.prog.types.size)))=true:=by kernel_rfl
theorem qvl:((Rows.universeInsideRow.ifacesOut == f6.resultTypes.toList.any (Tryz.pinned.checked.prog.ifacesRec ·)))=true:=by kernel_rfl
theorem qvm:((Rows.universeInsideRow.loopsOut == f6.resultTypes.toList.any (Tryz.pinned.checked.prog.loopsFrom ·)))=true:=by kernel_rfl
theorem qvn:((Rows.universeInsideRow.plainKeys == Tryz.pinned.checked.prog.plainKeys))=true:=by kernel_rfl
theorem qvo:(Rows.universeInsideRow.shortTexts.isNone)=true:=by kernel_rfl
theorem qvp:(Tryz.pinned.checked.prog.stopsHeard)=true:=by kernel_rfl
theorem qvq:(Tryz.pinned.checked.prog.mayEnter)=true:=by kernel_rfl
theorem qvr:((Rows.universeInsideRow.lifted == Tryz.pinned.checked.prog.liftsFinal))=true:=by kernel_rfl
theorem qvs:((Tryz.pinned.checked.prog.make == some Rows.universeInsideRow.make))=true:=by kernel_rfl
theorem qvt:((Rows.universeInsideRow.kinds == (if Rows.universeInsideRow.domain.isEmpty then [] else f6.params.toList.map fun t=>match Tryz.pinned.checked.prog.underlying t with | some (.int k)=>some k | _=>none)))=true:=by kernel_rfl
theorem qvu:((Rows.universeInsideRow.pinned == Rows.universeInsideRow.pinnedBy))=true:=by kernel_rfl
theorem qvw:((Rows.universeInsideRow.veiled == (f6.params.toList ++ Rows.universeInsideSpec.plain.varTypes Tryz.pinned.checked.prog ++ f6.resultTypes.toList).any (Tryz.pinned.checked.prog.veiledRec ·)))=true:=by kernel_rfl
theorem qvx:(Rows.universeInsideRow.veiledFits Tryz.pinned.checked.prog f6.params.toList (f6.params.toList ++ Rows.universeInsideSpec.plain.varTypes Tryz.pinned.checked.prog ++ f6.resultTypes.toList))=true:=by kernel_rfl
set_option maxRecDepth 100000 in
theorem qw4:joinedFacts Tryz.pinned.checked.prog 6 f6 Rows.universeInsideSpec Rows.universeInsideRow=true:=by
 unfold joinedFacts;exact (q0j (q0j (q0j (q0j (q0j (q0j (q0j (q0j (q0j (q0j (q0j (q0j (q0j (q0j (q0j (q0j (q0j (q0j (q0j (q0j (q0j (q0j (q0j (q0j (q0j (q0j (q0j (q0j (q0j (q0j (q0j qv8 qv9) qvk) qvv) qvy) qvz) qw0) qw1) qw2) qw3) qva) qvb) qvc) qvd) qve) qvf) qvg) qvh) qvi) qvj) qvl) qvm) qvn) qvo) qvp) qvq) qvr) qvs) qvt) qvu) qvw) qvx)
end

end Go.Proofs.YtbfikenbgfnfiaaGreatDoor
