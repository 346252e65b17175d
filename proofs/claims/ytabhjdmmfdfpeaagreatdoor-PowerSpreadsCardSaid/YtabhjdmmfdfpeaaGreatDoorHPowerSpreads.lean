/- Lemmas. -/
import Derived.Test.YtabhjdmmfdfpeaaGreatDoorMLaw
namespace Go.Proofs.YtabhjdmmfdfpeaaGreatDoor
set_option maxHeartbeats 32000000
open _root_.Go.Proofs.Tryz

section
open Go.ChangeShapes Go.ChangeMaps Go.WideShapes Go.ChangeAt Go.RowKit
theorem q0j {a b:Bool} (ha:a=true) (hb:b=true):(a && b)=true:=by rw [ha,hb];rfl
theorem q0jd:(Rows.powerSpreadsRow.wf (OpenSpec.ofChange Rows.powerSpreadsSpec))=true:=k_
theorem q0je:(laidOutB Tryz.pinned.checked.prog)=true:=k_
theorem q0jp:(mapsRowed Tryz.pinned.checked.prog)=true:=k_
theorem q0k0:(f3.params.all (Tryz.pinned.checked.prog.readableRec ·))=true:=k_
theorem q0k3:(namedTie Tryz.pinned.checked.prog Rows.powerSpreadsRow.named Rows.powerSpreadsSpec.vars)=true:=k_
theorem q0k4:((Rows.powerSpreadsRow.stops == []))=true:=k_
theorem q0k5:((Tryz.pinned.checked.prog.stops == []))=true:=k_
theorem q0k6:((Rows.powerSpreadsRow.knobs == []))=true:=k_
theorem q0k7:((Tryz.pinned.checked.prog.stopKnobs == []))=true:=k_
theorem q0k8:((Rows.powerSpreadsRow.inPlace == Tryz.pinned.checked.prog.inPlace 3))=true:=k_
theorem q0jf:((Rows.powerSpreadsRow.unfollowed == Tryz.pinned.checked.prog.unfollowed 3))=true:=k_
theorem q0jg:((Rows.powerSpreadsRow.recurses == Tryz.pinned.checked.prog.recurses 3))=true:=k_
theorem q0jh:((Rows.powerSpreadsRow.named == Tryz.pinned.checked.prog.varsNamed 3))=true:=k_
theorem q0ji:((Rows.powerSpreadsRow.maps == (f3.params.toList ++ Rows.powerSpreadsSpec.plain.varTypes Tryz.pinned.checked.prog).any (Tryz.pinned.checked.prog.mapsRec ·)))=true:=k_
theorem q0jj:((Rows.powerSpreadsRow.ifaces == (f3.params.toList ++ Rows.powerSpreadsSpec.plain.varTypes Tryz.pinned.checked.prog).any (Tryz.pinned.checked.prog.ifacesRec ·)))=true:=k_
theorem q0jk:((Rows.powerSpreadsRow.mapsOut == Tryz.pinned.checked.prog.mapsAmong f3.resultTypes.toList))=true:=k_
theorem q0jl:((Rows.powerSpreadsRow.loops == (f3.params.toList ++ Rows.powerSpreadsSpec.plain.varTypes Tryz.pinned.checked.prog).any (Tryz.pinned.checked.prog.loopsFrom ·)))=true:=k_
theorem q0jm:((Rows.powerSpreadsRow.wideKeys == (f3.params.toList ++ Rows.powerSpreadsSpec.plain.varTypes Tryz.pinned.checked.prog ++ f3.resultTypes.toList).any (Tryz.pinned.checked.prog.wideKeysFrom ·)))=true:=k_
theorem q0jn:(Rows.powerSpreadsSpec.vars.all (Tryz.pinned.checked.prog.varReadable ·))=true:=k_
theorem q0jo:(f3.resultTypes.all (fun t=>Tryz.pinned.checked.prog.readableRec t && decide (t<Tryz.pinned.checked.prog.types.size)))=true:=k_
theorem q0jq:((Rows.powerSpreadsRow.ifacesOut == f3.resultTypes.toList.any (Tryz.pinned.checked.prog.ifacesRec ·)))=true:=k_
theorem q0jr:((Rows.powerSpreadsRow.loopsOut == f3.resultTypes.toList.any (Tryz.pinned.checked.prog.loopsFrom ·)))=true:=k_
theorem q0js:((Rows.powerSpreadsRow.plainKeys == Tryz.pinned.checked.prog.plainKeys))=true:=k_
theorem q0jt:(Rows.powerSpreadsRow.shortTexts.isNone)=true:=k_
theorem q0ju:(Tryz.pinned.checked.prog.stopsHeard)=true:=k_
theorem q0jv:(Tryz.pinned.checked.prog.mayEnter)=true:=k_
theorem q0jw:((Rows.powerSpreadsRow.lifted == Tryz.pinned.checked.prog.liftsFinal))=true:=k_
theorem q0jx:((Tryz.pinned.checked.prog.make == some Rows.powerSpreadsRow.make))=true:=k_
theorem q0jy:((Rows.powerSpreadsRow.kinds == (if Rows.powerSpreadsRow.domain.isEmpty then [] else f3.params.toList.map fun t=>match Tryz.pinned.checked.prog.underlying t with | some (.int k)=>some k | _=>none)))=true:=k_
theorem q0jz:((Rows.powerSpreadsRow.pinned == Rows.powerSpreadsRow.pinnedBy))=true:=k_
theorem q0k1:((Rows.powerSpreadsRow.veiled == (f3.params.toList ++ Rows.powerSpreadsSpec.plain.varTypes Tryz.pinned.checked.prog ++ f3.resultTypes.toList).any (Tryz.pinned.checked.prog.veiledRec ·)))=true:=k_
theorem q0k2:(Rows.powerSpreadsRow.veiledFits Tryz.pinned.checked.prog f3.params.toList (f3.params.toList ++ Rows.powerSpreadsSpec.plain.varTypes Tryz.pinned.checked.prog ++ f3.resultTypes.toList))=true:=k_
set_option maxRecDepth 100000 in
theorem q0k9:joinedFacts Tryz.pinned.checked.prog 3 f3 Rows.powerSpreadsSpec Rows.powerSpreadsRow=true:=by
 unfold joinedFacts;exact (q0j (q0j (q0j (q0j (q0j (q0j (q0j (q0j (q0j (q0j (q0j (q0j (q0j (q0j (q0j (q0j (q0j (q0j (q0j (q0j (q0j (q0j (q0j (q0j (q0j (q0j (q0j (q0j (q0j (q0j (q0j q0jd q0je) q0jp) q0k0) q0k3) q0k4) q0k5) q0k6) q0k7) q0k8) q0jf) q0jg) q0jh) q0ji) q0jj) q0jk) q0jl) q0jm) q0jn) q0jo) q0jq) q0jr) q0js) q0jt) q0ju) q0jv) q0jw) q0jx) q0jy) q0jz) q0k1) q0k2)
end

end Go.Proofs.YtabhjdmmfdfpeaaGreatDoor
