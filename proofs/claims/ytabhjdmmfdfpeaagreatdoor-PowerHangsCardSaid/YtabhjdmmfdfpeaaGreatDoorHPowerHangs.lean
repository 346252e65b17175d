/- Lemmas. -/
import Derived.Test.YtabhjdmmfdfpeaaGreatDoorKLaw
namespace Go.Proofs.YtabhjdmmfdfpeaaGreatDoor
set_option maxHeartbeats 32000000
open _root_.Go.Proofs.Tryz

section
open Go.ChangeShapes Go.ChangeMaps Go.WideShapes Go.ChangeAt Go.RowKit
theorem q0j {a b:Bool} (ha:a=true) (hb:b=true):(a && b)=true:=by rw [ha,hb];rfl
theorem q0mr:(Rows.powerHangsRow.wf (OpenSpec.ofChange Rows.powerHangsSpec))=true:=k_
theorem q0ms:(laidOutB Tryz.pinned.checked.prog)=true:=k_
theorem q0n3:(mapsRowed Tryz.pinned.checked.prog)=true:=k_
theorem q0ne:(f6.params.all (Tryz.pinned.checked.prog.readableRec ·))=true:=k_
theorem q0nh:(namedTie Tryz.pinned.checked.prog Rows.powerHangsRow.named Rows.powerHangsSpec.vars)=true:=k_
theorem q0ni:((Rows.powerHangsRow.stops == []))=true:=k_
theorem q0nj:((Tryz.pinned.checked.prog.stops == []))=true:=k_
theorem q0nk:((Rows.powerHangsRow.knobs == []))=true:=k_
theorem q0nl:((Tryz.pinned.checked.prog.stopKnobs == []))=true:=k_
theorem q0nm:((Rows.powerHangsRow.inPlace == Tryz.pinned.checked.prog.inPlace 6))=true:=k_
theorem q0mt:((Rows.powerHangsRow.unfollowed == Tryz.pinned.checked.prog.unfollowed 6))=true:=k_
theorem q0mu:((Rows.powerHangsRow.recurses == Tryz.pinned.checked.prog.recurses 6))=true:=k_
theorem q0mv:((Rows.powerHangsRow.named == Tryz.pinned.checked.prog.varsNamed 6))=true:=k_
theorem q0mw:((Rows.powerHangsRow.maps == (f6.params.toList ++ Rows.powerHangsSpec.plain.varTypes Tryz.pinned.checked.prog).any (Tryz.pinned.checked.prog.mapsRec ·)))=true:=k_
theorem q0mx:((Rows.powerHangsRow.ifaces == (f6.params.toList ++ Rows.powerHangsSpec.plain.varTypes Tryz.pinned.checked.prog).any (Tryz.pinned.checked.prog.ifacesRec ·)))=true:=k_
theorem q0my:((Rows.powerHangsRow.mapsOut == Tryz.pinned.checked.prog.mapsAmong f6.resultTypes.toList))=true:=k_
theorem q0mz:((Rows.powerHangsRow.loops == (f6.params.toList ++ Rows.powerHangsSpec.plain.varTypes Tryz.pinned.checked.prog).any (Tryz.pinned.checked.prog.loopsFrom ·)))=true:=k_
theorem q0n0:((Rows.powerHangsRow.wideKeys == (f6.params.toList ++ Rows.powerHangsSpec.plain.varTypes Tryz.pinned.checked.prog ++ f6.resultTypes.toList).any (Tryz.pinned.checked.prog.wideKeysFrom ·)))=true:=k_
theorem q0n1:(Rows.powerHangsSpec.vars.all (Tryz.pinned.checked.prog.varReadable ·))=true:=k_
theorem q0n2:(f6.resultTypes.all (fun t=>Tryz.pinned.checked.prog.readableRec t && decide (t<Tryz.pinned.checked.prog.types.size)))=true:=k_
theorem q0n4:((Rows.powerHangsRow.ifacesOut == f6.resultTypes.toList.any (Tryz.pinned.checked.prog.ifacesRec ·)))=true:=k_
theorem q0n5:((Rows.powerHangsRow.loopsOut == f6.resultTypes.toList.any (Tryz.pinned.checked.prog.loopsFrom ·)))=true:=k_
theorem q0n6:((Rows.powerHangsRow.plainKeys == Tryz.pinned.checked.prog.plainKeys))=true:=k_
theorem q0n7:(Rows.powerHangsRow.shortTexts.isNone)=true:=k_
theorem q0n8:(Tryz.pinned.checked.prog.stopsHeard)=true:=k_
theorem q0n9:(Tryz.pinned.checked.prog.mayEnter)=true:=k_
theorem q0na:((Rows.powerHangsRow.lifted == Tryz.pinned.checked.prog.liftsFinal))=true:=k_
theorem q0nb:((Tryz.pinned.checked.prog.make == some Rows.powerHangsRow.make))=true:=k_
theorem q0nc:((Rows.powerHangsRow.kinds == (if Rows.powerHangsRow.domain.isEmpty then [] else f6.params.toList.map fun t=>match Tryz.pinned.checked.prog.underlying t with | some (.int k)=>some k | _=>none)))=true:=k_
theorem q0nd:((Rows.powerHangsRow.pinned == Rows.powerHangsRow.pinnedBy))=true:=k_
theorem q0nf:((Rows.powerHangsRow.veiled == (f6.params.toList ++ Rows.powerHangsSpec.plain.varTypes Tryz.pinned.checked.prog ++ f6.resultTypes.toList).any (Tryz.pinned.checked.prog.veiledRec ·)))=true:=k_
theorem q0ng:(Rows.powerHangsRow.veiledFits Tryz.pinned.checked.prog f6.params.toList (f6.params.toList ++ Rows.powerHangsSpec.plain.varTypes Tryz.pinned.checked.prog ++ f6.resultTypes.toList))=true:=k_
set_option maxRecDepth 100000 in
theorem q0nn:joinedFacts Tryz.pinned.checked.prog 6 f6 Rows.powerHangsSpec Rows.powerHangsRow=true:=by
 unfold joinedFacts;exact (q0j (q0j (q0j (q0j (q0j (q0j (q0j (q0j (q0j (q0j (q0j (q0j (q0j (q0j (q0j (q0j (q0j (q0j (q0j (q0j (q0j (q0j (q0j (q0j (q0j (q0j (q0j (q0j (q0j (q0j (q0j q0mr q0ms) q0n3) q0ne) q0nh) q0ni) q0nj) q0nk) q0nl) q0nm) q0mt) q0mu) q0mv) q0mw) q0mx) q0my) q0mz) q0n0) q0n1) q0n2) q0n4) q0n5) q0n6) q0n7) q0n8) q0n9) q0na) q0nb) q0nc) q0nd) q0nf) q0ng)
end

end Go.Proofs.YtabhjdmmfdfpeaaGreatDoor
