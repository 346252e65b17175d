/- Lemmas. -/
import Derived.Test.YtbfikenbgfnfiaaGreatDoorKLaw
namespace Go.Proofs.YtbfikenbgfnfiaaGreatDoor
set_option maxHeartbeats 32000000
open _root_.Go.Proofs.Tryz

section
open Go.ChangeShapes Go.ChangeMaps Go.WideShapes Go.ChangeAt Go.RowKit
theorem q0j {a b:Bool} (ha:a=true) (hb:b=true):(a && b)=true:=by rw [ha,hb];rfl
theorem q08t:(Rows.universeReadsRow.wf (OpenSpec.ofChange Rows.universeReadsSpec))=true:=by kernel_rfl
theorem q08u:(laidOutB Tryz.pinned.checked.prog)=true:=by kernel_rfl
theorem q095:(mapsRowed Tryz.pinned.checked.prog)=true:=by kernel_rfl
theorem q09g:(f8.params.all (Tryz.pinned.checked.prog.readableRec ·))=true:=by kernel_rfl
theorem q09j:(namedTie Tryz.pinned.checked.prog Rows.universeReadsRow.named Rows.universeReadsSpec.vars)=true:=by kernel_rfl
theorem q09k:((Rows.universeReadsRow.stops == []))=true:=by kernel_rfl
theorem q09l:((Tryz.pinned.checked.prog.stops == []))=true:=by kernel_rfl
theorem q09m:((Rows.universeReadsRow.knobs == []))=true:=by kernel_rfl
theorem q09n:((Tryz.pinned.checked.prog.stopKnobs == []))=true:=by kernel_rfl
theorem q09o:((Rows.universeReadsRow.inPlace == Tryz.pinned.checked.prog.inPlace 8))=true:=by kernel_rfl
theorem q08v:((Rows.universeReadsRow.unfollowed == Tryz.pinned.checked.prog.unfollowed 8))=true:=by kernel_rfl
theorem q08w:((Rows.universeReadsRow.recurses == Tryz.pinned.checked.prog.recurses 8))=true:=by kernel_rfl
theorem q08x:((Rows.universeReadsRow.named == Tryz.pinned.checked.prog.varsNamed 8))=true:=by kernel_rfl
theorem q08y:((Rows.universeReadsRow.maps == (f8.params.toList ++ Rows.universeReadsSpec.plain.varTypes Tryz.pinned.checked.prog).any (Tryz.pinned.checked.prog.mapsRec ·)))=true:=by kernel_rfl
theorem q08z:((Rows.universeReadsRow.ifaces == (f8.params.toList ++ Rows.universeReadsSpec.plain.varTypes Tryz.pinned.checked.prog).any (Tryz.pinned.checked.prog.ifacesRec ·)))=true:=by kernel_rfl
theorem q090:((Rows.universeReadsRow.mapsOut == Tryz.pinned.checked.prog.mapsAmong f8.resultTypes.toList))=true:=by kernel_rfl
theorem q091:((Rows.universeReadsRow.loops == (f8.params.toList ++ Rows.universeReadsSpec.plain.varTypes Tryz.pinned.checked.prog).any (Tryz.pinned.checked.prog.loopsFrom ·)))=true:=by kernel_rfl
theorem q092:((Rows.universeReadsRow.wideKeys == (f8.params.toList ++ Rows.universeReadsSpec.plain.varTypes Tryz.pinned.checked.prog ++ f8.resultTypes.toList).any (Tryz.pinned.checked.prog.wideKeysFrom ·)))=true:=by kernel_rfl
theorem q093:(Rows.universeReadsSpec.vars.all (Tryz.pinned.checked.prog.varReadable ·))=true:=by kernel_rfl
theorem q094:(f8.resultTypes.all (fun t=>Tryz.pinned.checked.prog.readableRec t && decide (t<Tryz.pinned.checked.prog.types.size)))=true:=by kernel_rfl
theorem q096:((Rows.universeReadsRow.ifacesOut == f8.resultTypes.toList.any (Tryz.pinned.checked.prog.ifacesRec ·)))=true:=by kernel_rfl
theorem q097:((Rows.universeReadsRow.loopsOut == f8.resultTypes.toList.any (Tryz.pinned.checked.prog.loopsFrom ·)))=true:=by kernel_rfl
theorem q098:((Rows.universeReadsRow.plainKeys == Tryz.pinned.checked.prog.plainKeys))=true:=by kernel_rfl
theorem q099:(Rows.universeReadsRow.shortTexts.isNone)=true:=by kernel_rfl
theorem q09a:(Tryz.pinned.checked.prog.stopsHeard)=true:=by kernel_rfl
theorem q09b:(Tryz.pinned.checked.prog.mayEnter)=true:=by kernel_rfl
theorem q09c:((Rows.universeReadsRow.lifted == Tryz.pinned.checked.prog.liftsFinal))=true:=by kernel_rfl
theorem q09d:((Tryz.pinned.checked.prog.make == some Rows.universeReadsRow.make))=true:=by kernel_rfl
theorem q09e:((Rows.universeReadsRow.kinds == (if Rows.universeReadsRow.domain.isEmpty then [] else f8.params.toList.map fun t=>match Tryz.pinned.checked.prog.underlying t with | some (.int k)=>some k | _=>none)))=true:=by kernel_rfl
theorem q09f:((Rows.universeReadsRow.pinned == Rows.universeReadsRow.pinnedBy))=true:=by kernel_rfl
theorem q09h:((Rows.universeReadsRow.veiled == (f8.params.toList ++ Rows.universeReadsSpec.plain.varTypes Tryz.pinned.checked.prog ++ f8.resultTypes.toList).any (Tryz.pinned.checked.prog.veiledRec ·)))=true:=by kernel_rfl
theorem q09i:(Rows.universeReadsRow.veiledFits Tryz.pinned.checked.prog f8.params.toList (f8.params.toList ++ Rows.universeReadsSpec.plain.varTypes Tryz.pinned.checked.prog ++ f8.resultTypes.toList))=true:=by kernel_rfl
set_option maxRecDepth 100000 in
theorem q09p:joinedFacts Tryz.pinned.checked.prog 8 f8 Rows.universeReadsSpec Rows.universeReadsRow=true:=by
 unfold joinedFacts;exact (q0j (q0j (q0j (q0j (q0j (q0j (q0j (q0j (q0j (q0j (q0j (q0j (q0j (q0j (q0j (q0j (q0j (q0j (q0j (q0j (q0j (q0j (q0j (q0j (q0j (q0j (q0j (q0j (q0j (q0j (q0j q08t q08u) q095) q09g) q09j) q09k) q09l) q09m) q09n) q09o) q08v) q08w) q08x) q08y) q08z) q090) q091) q092) q093) q094) q096) q097) q098) q099) q09a) q09b) q09c) q09d) q09e) q09f) q09h) q09i)
end

end Go.Proofs.YtbfikenbgfnfiaaGreatDoor
