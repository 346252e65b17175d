/- Lemmas. -/
import Derived.Test.YtmcbkdlfhffphaaGreatDoorMLaw
namespace Go.Proofs.YtmcbkdlfhffphaaGreatDoor
set_option maxHeartbeats 32000000
open _root_.Go.Proofs.Tryz

section
open Go.ChangeShapes Go.ChangeMaps Go.WideShapes Go.ChangeAt Go.RowKit
theorem q0j {a b:Bool} (ha:a=true) (hb:b=true):(a && b)=true:=by rw [ha,hb];rfl
theorem q0dc:(Rows.topColoursArriveRow.wf (OpenSpec.ofChange Rows.topColoursArriveSpec))=true:=by kernel_rfl
theorem q0dd:(laidOutB Tryz.pinned.checked.prog)=true:=by kernel_rfl
theorem q0do:(mapsRowed Tryz.pinned.checked.prog)=true:=by kernel_rfl
theorem q0dz:(f4.params.all (Tryz.pinned.checked.prog.readableRec ·))=true:=by kernel_rfl
theorem q0e2:(namedTie Tryz.pinned.checked.prog Rows.topColoursArriveRow.named Rows.topColoursArriveSpec.vars)=true:=by kernel_rfl
theorem q0e3:((Rows.topColoursArriveRow.stops == []))=true:=by kernel_rfl
theorem q0e4:((Tryz.pinned.checked.prog.stops == []))=true:=by kernel_rfl
theorem q0e5:((Rows.topColoursArriveRow.knobs == []))=true:=by kernel_rfl
theorem q0e6:((Tryz.pinned.checked.prog.stopKnobs == []))=true:=by kernel_rfl
theorem q0e7:((Rows.topColoursArriveRow.inPlace == Tryz.pinned.checked.prog.inPlace 4))=true:=by kernel_rfl
theorem q0de:((Rows.topColoursArriveRow.unfollowed == Tryz.pinned.checked.prog.unfollowed 4))=true:=by kernel_rfl
theorem q0df:((Rows.topColoursArriveRow.recurses == Tryz.pinned.checked.prog.recurses 4))=true:=by kernel_rfl
theorem q0dg:((Rows.topColoursArriveRow.named == Tryz.pinned.checked.prog.varsNamed 4))=true:=by kernel_rfl
theorem q0dh:((Rows.topColoursArriveRow.maps == (f4.params.toList ++ Rows.topColoursArriveSpec.plain.varTypes Tryz.pinned.checked.prog).any (Tryz.pinned.checked.prog.mapsRec ·)))=true:=by kernel_rfl
theorem q0di:((Rows.topColoursArriveRow.ifaces == (f4.params.toList ++ Rows.topColoursArriveSpec.plain.varTypes Tryz.pinned.checked.prog).any (Tryz.pinned.checked.prog.ifacesRec ·)))=true:=by kernel_rfl
theorem q0dj:((Rows.topColoursArriveRow.mapsOut == Tryz.pinned.checked.prog.mapsAmong f4.resultTypes.toList))=true:=by kernel_rfl
theorem q0dk:((Rows.topColoursArriveRow.loops == (f4.params.toList ++ Rows.topColoursArriveSpec.plain.varTypes Tryz.pinned.checked.prog).any (Tryz.pinned.checked.prog.loopsFrom ·)))=true:=by kernel_rfl
theorem q0dl:((Rows.topColoursArriveRow.wideKeys == (f4.params.toList ++ Rows.topColoursArriveSpec.plain.varTypes Tryz.pinned.checked.prog ++ f4.resultTypes.toList).any (Tryz.pinned.checked.prog.wideKeysFrom ·)))=true:=by kernel_rfl
theorem q0dm:(Rows.topColoursArriveSpec.vars.all (Tryz.pinned.checked.prog.varReadable ·))=true:=by kernel_rfl
theorem q0dn:(f4.resultTypes.all (fun t=>Tryz.pinned.checked.prog.readableRec t && decide (t<Tryz.pinned.checked.prog.types.size)))=true:=by kernel_rfl
theorem q0dp:((Rows.topColoursArriveRow.ifacesOut == f4.resultTypes.toList.any (Tryz.pinned.checked.prog.ifacesRec ·)))=true:=by kernel_rfl
theorem q0dq:((Rows.topColoursArriveRow.loopsOut == f4.resultTypes.toList.any (Tryz.pinned.checked.prog.loopsFrom ·)))=true:=by kernel_rfl
theorem q0dr:((Rows.topColoursArriveRow.plainKeys == Tryz.pinned.checked.prog.plainKeys))=true:=by kernel_rfl
theorem q0ds:(Rows.topColoursArriveRow.shortTexts.isNone)=true:=by kernel_rfl
theorem q0dt:(Tryz.pinned.checked.prog.stopsHeard)=true:=by kernel_rfl
theorem q0du:(Tryz.pinned.checked.prog.mayEnter)=true:=by kernel_rfl
theorem q0dv:((Rows.topColoursArriveRow.lifted == Tryz.pinned.checked.prog.liftsFinal))=true:=by kernel_rfl
theorem q0dw:((Tryz.pinned.checked.prog.make == some Rows.topColoursArriveRow.make))=true:=by kernel_rfl
theorem q0dx:((Rows.topColoursArriveRow.kinds == (if Rows.topColoursArriveRow.domain.isEmpty then [] else f4.params.toList.map fun t=>match Tryz.pinned.checked.prog.underlying t with | some (.int k)=>some k | _=>none)))=true:=by kernel_rfl
theorem q0dy:((Rows.topColoursArriveRow.pinned == Rows.topColoursArriveRow.pinnedBy))=true:=by kernel_rfl
theorem q0e0:((Rows.topColoursArriveRow.veiled == (f4.params.toList ++ Rows.topColoursArriveSpec.plain.varTypes Tryz.pinned.checked.prog ++ f4.resultTypes.toList).any (Tryz.pinned.checked.prog.veiledRec ·)))=true:=by kernel_rfl
theorem q0e1:(Rows.topColoursArriveRow.veiledFits Tryz.pinned.checked.prog f4.params.toList (f4.params.toList ++ Rows.topColoursArriveSpec.plain.varTypes Tryz.pinned.checked.prog ++ f4.resultTypes.toList))=true:=by kernel_rfl
set_option maxRecDepth 100000 in
theorem q0e8:joinedFacts Tryz.pinned.checked.prog 4 f4 Rows.topColoursArriveSpec Rows.topColoursArriveRow=true:=by
 unfold joinedFacts;exact (q0j (q0j (q0j (q0j (q0j (q0j (q0j (q0j (q0j (q0j (q0j (q0j (q0j (q0j (q0j (q0j (q0j (q0j (q0j (q0j (q0j (q0j (q0j (q0j (q0j (q0j (q0j (q0j (q0j (q0j (q0j q0dc q0dd) q0do) q0dz) q0e2) q0e3) q0e4) q0e5) q0e6) q0e7) q0de) q0df) q0dg) q0dh) q0di) q0dj) q0dk) q0dl) q0dm) q0dn) q0dp) q0dq) q0dr) q0ds) q0dt) q0du) q0dv) q0dw) q0dx) q0dy) q0e0) q0e1)
end

end Go.Proofs.YtmcbkdlfhffphaaGreatDoor
