/- Lemmas. -/
import Derived.Test.YtabhjdmmfdfpeaaGreatDoorKLaw
namespace Go.Proofs.YtabhjdmmfdfpeaaGreatDoor
set_option maxHeartbeats 32000000
open _root_.Go.Proofs.Tryz

section
open Go.ChangeShapes Go.ChangeMaps Go.WideShapes Go.ChangeAt Go.RowKit
theorem q0j {a b:Bool} (ha:a=true) (hb:b=true):(a && b)=true:=by rw [ha,hb];rfl
theorem q0lu:(Rows.powerBalancesRow.wf (OpenSpec.ofChange Rows.powerBalancesSpec))=true:=k_
theorem q0lv:(laidOutB Tryz.pinned.checked.prog)=true:=k_
theorem q0m6:(mapsRowed Tryz.pinned.checked.prog)=true:=k_
theorem q0mh:(f5.params.all (Tryz.pinned.checked.prog.readableRec ·))=true:=k_
theorem q0mk:(namedTie Tryz.pinned.checked.prog Rows.powerBalancesRow.named Rows.powerBalancesSpec.vars)=true:=k_
theorem q0ml:((Rows.powerBalancesRow.stops == []))=true:=k_
theorem q0mm:((Tryz.pinned.checked.prog.stops == []))=true:=k_
theorem q0mn:((Rows.powerBalancesRow.knobs == []))=true:=k_
theorem q0mo:((Tryz.pinned.checked.prog.stopKnobs == []))=true:=k_
theorem q0mp:((Rows.powerBalancesRow.inPlace == Tryz.pinned.checked.prog.inPlace 5))=true:=k_
theorem q0lw:((Rows.powerBalancesRow.unfollowed == Tryz.pinned.checked.prog.unfollowed 5))=true:=k_
theorem q0lx:((Rows.powerBalancesRow.recurses == Tryz.pinned.checked.prog.recurses 5))=true:=k_
theorem q0ly:((Rows.powerBalancesRow.named == Tryz.pinned.checked.prog.varsNamed 5))=true:=k_
theorem q0lz:((Rows.powerBalancesRow.maps == (f5.params.toList ++ Rows.powerBalancesSpec.plain.varTypes Tryz.pinned.checked.prog).any (Tryz.pinned.checked.prog.mapsRec ·)))=true:=k_
theorem q0m0:((Rows.powerBalancesRow.ifaces == (f5.params.toList ++ Rows.powerBalancesSpec.plain.varTypes Tryz.pinned.checked.prog).any (Tryz.pinned.checked.prog.ifacesRec ·)))=true:=k_
theorem q0m1:((Rows.powerBalancesRow.mapsOut == Tryz.pinned.checked.prog.mapsAmong f5.resultTypes.toList))=true:=k_
theorem q0m2:((Rows.powerBalancesRow.loops == (f5.params.toList ++ Rows.powerBalancesSpec.plain.varTypes Tryz.pinned.checked.prog).any (Tryz.pinned.checked.prog.loopsFrom ·)))=true:=k_
theorem q0m3:((Rows.powerBalancesRow.wideKeys == (f5.params.toList ++ Rows.powerBalancesSpec.plain.varTypes Tryz.pinned.checked.prog ++ f5.resultTypes.toList).any (Tryz.pinned.checked.prog.wideKeysFrom ·)))=true:=k_
theorem q0m4:(Rows.powerBalancesSpec.vars.all (Tryz.pinned.checked.prog.varReadable ·))=true:=k_
theorem q0m5:(f5.resultTypes.all (fun t=>Tryz.pinned.checked.prog.readableRec t && decide (t<Tryz.pinned.checked.prog.types.size)))=true:=k_
theorem q0m7:((Rows.powerBalancesRow.ifacesOut == f5.resultTypes.toList.any (Tryz.pinned.checked.prog.ifacesRec ·)))=true:=k_
theorem q0m8:((Rows.powerBalancesRow.loopsOut == f5.resultTypes.toList.any (Tryz.pinned.checked.prog.loopsFrom ·)))=true:=k_
theorem q0m9:((Rows.powerBalancesRow.plainKeys == Tryz.pinned.checked.prog.plainKeys))=true:=k_
theorem q0ma:(Rows.powerBalancesRow.shortTexts.isNone)=true:=k_
theorem q0mb:(Tryz.pinned.checked.prog.stopsHeard)=true:=k_
theorem q0mc:(Tryz.pinned.checked.prog.mayEnter)=true:=k_
theorem q0md:((Rows.powerBalancesRow.lifted == Tryz.pinned.checked.prog.liftsFinal))=true:=k_
theorem q0me:((Tryz.pinned.checked.prog.make == some Rows.powerBalancesRow.make))=true:=k_
theorem q0mf:((Rows.powerBalancesRow.kinds == (if Rows.powerBalancesRow.domain.isEmpty then [] else f5.params.toList.map fun t=>match Tryz.pinned.checked.prog.underlying t with | some (.int k)=>some k | _=>none)))=true:=k_
theorem q0mg:((Rows.powerBalancesRow.pinned == Rows.powerBalancesRow.pinnedBy))=true:=k_
theorem q0mi:((Rows.powerBalancesRow.veiled == (f5.params.toList ++ Rows.powerBalancesSpec.plain.varTypes Tryz.pinned.checked.prog ++ f5.resultTypes.toList).any (Tryz.pinned.checked.prog.veiledRec ·)))=true:=k_
theorem q0mj:(Rows.powerBalancesRow.veiledFits Tryz.pinned.checked.prog f5.params.toList (f5.params.toList ++ Rows.powerBalancesSpec.plain.varTypes Tryz.pinned.checked.prog ++ f5.resultTypes.toList))=true:=k_
set_option maxRecDepth 100000 in
theorem q0mq:joinedFacts Tryz.pinned.checked.prog 5 f5 Rows.powerBalancesSpec Rows.powerBalancesRow=true:=by
 unfold joinedFacts;exact (q0j (q0j (q0j (q0j (q0j (q0j (q0j (q0j (q0j (q0j (q0j (q0j (q0j (q0j (q0j (q0j (q0j (q0j (q0j (q0j (q0j (q0j (q0j (q0j (q0j (q0j (q0j (q0j (q0j (q0j (q0j q0lu q0lv) q0m6) q0mh) q0mk) q0ml) q0mm) q0mn) q0mo) q0mp) q0lw) q0lx) q0ly) q0lz) q0m0) q0m1) q0m2) q0m3) q0m4) q0m5) q0m7) q0m8) q0m9) q0ma) q0mb) q0mc) q0md) q0me) q0mf) q0mg) q0mi) q0mj)
end

end Go.Proofs.YtabhjdmmfdfpeaaGreatDoor
