/- Lemmas. -/
import Derived.Test.YtbfikenbgfnfiaaGreatDoorMLaw
namespace Go.Proofs.YtbfikenbgfnfiaaGreatDoor
set_option maxHeartbeats 32000000
open _root_.Go.Proofs.Tryz

section
open Go.ChangeShapes Go.ChangeMaps Go.WideShapes Go.ChangeAt Go.RowKit
theorem q0j {a b:Bool} (ha:a=true) (hb:b=true):(a && b)=true:=by rw [ha,hb];rfl
theorem q061:(Rows.universeRisesRow.wf (OpenSpec.ofChange Rows.universeRisesSpec))=true:=by kernel_rfl
theorem q062:(laidOutB Tryz.pinned.checked.prog)=true:=by kernel_rfl
theorem q06d:(mapsRowed Tryz.pinned.checked.prog)=true:=by kernel_rfl
theorem q06o:(f7.params.all (Tryz.pinned.checked.prog.readableRec ·))=true:=by kernel_rfl
theorem q06r:(namedTie Tryz.pinned.checked.prog Rows.universeRisesRow.named Rows.universeRisesSpec.vars)=true:=by kernel_rfl
theorem q06s:((Rows.universeRisesRow.stops == []))=true:=by kernel_rfl
theorem q06t:((Tryz.pinned.checked.prog.stops == []))=true:=by kernel_rfl
theorem q06u:((Rows.universeRisesRow.knobs == []))=true:=by kernel_rfl
theorem q06v:((Tryz.pinned.checked.prog.stopKnobs == []))=true:=by kernel_rfl
theorem q06w:((Rows.universeRisesRow.inPlace == Tryz.pinned.checked.prog.inPlace 7))=true:=by kernel_rfl
theorem q063:((Rows.universeRisesRow.unfollowed == Tryz.pinned.checked.prog.unfollowed 7))=true:=by kernel_rfl
theorem q064:((Rows.universeRisesRow.recurses == Tryz.pinned.checked.prog.recurses 7))=true:=by kernel_rfl
theorem q065:((Rows.universeRisesRow.named == Tryz.pinned.checked.prog.varsNamed 7))=true:=by kernel_rfl
theorem q066:((Rows.universeRisesRow.maps == (f7.params.toList ++ Rows.universeRisesSpec.plain.varTypes Tryz.pinned.checked.prog).any (Tryz.pinned.checked.prog.mapsRec ·)))=true:=by kernel_rfl
theorem q067:((Rows.universeRisesRow.ifaces == (f7.params.toList ++ Rows.universeRisesSpec.plain.varTypes Tryz.pinned.checked.prog).any (Tryz.pinned.checked.prog.ifacesRec ·)))=true:=by kernel_rfl
theorem q068:((Rows.universeRisesRow.mapsOut == Tryz.pinned.checked.prog.mapsAmong f7.resultTypes.toList))=true:=by kernel_rfl
theorem q069:((Rows.universeRisesRow.loops == (f7.params.toList ++ Rows.universeRisesSpec.plain.varTypes Tryz.pinned.checked.prog).any (Tryz.pinned.checked.prog.loopsFrom ·)))=true:=by kernel_rfl
theorem q06a:((Rows.universeRisesRow.wideKeys == (f7.params.toList ++ Rows.universeRisesSpec.plain.varTypes Tryz.pinned.checked.prog ++ f7.resultTypes.toList).any (Tryz.pinned.checked.prog.wideKeysFrom ·)))=true:=by kernel_rfl
theorem q06b:(Rows.universeRisesSpec.vars.all (Tryz.pinned.checked.prog.varReadable ·))=true:=by kernel_rfl
theorem q06c:(f7.resultTypes.all (fun t=>Tryz.pinned.checked.prog.readableRec t && decide (t<Tryz.pinned.checked.prog.types.size)))=true:=by kernel_rfl
theorem q06e:((Rows.universeRisesRow.ifacesOut == f7.resultTypes.toList.any (Tryz.pinned.checked.prog.ifacesRec ·)))=true:=by kernel_rfl
theorem q06f:((Rows.universeRisesRow.loopsOut == f7.resultTypes.toList.any (Tryz.pinned.checked.prog.loopsFrom ·)))=true:=by kernel_rfl
theorem q06g:((Rows.universeRisesRow.plainKeys == Tryz.pinned.checked.prog.plainKeys))=true:=by kernel_rfl
theorem q06h:(Rows.universeRisesRow.shortTexts.isNone)=true:=by kernel_rfl
theorem q06i:(Tryz.pinned.checked.prog.stopsHeard)=true:=by kernel_rfl
theorem q06j:(Tryz.pinned.checked.prog.mayEnter)=true:=by kernel_rfl
theorem q06k:((Rows.universeRisesRow.lifted == Tryz.pinned.checked.prog.liftsFinal))=true:=by kernel_rfl
theorem q06l:((Tryz.pinned.checked.prog.make == some Rows.universeRisesRow.make))=true:=by kernel_rfl
theorem q06m:((Rows.universeRisesRow.kinds == (if Rows.universeRisesRow.domain.isEmpty then [] else f7.params.toList.map fun t=>match Tryz.pinned.checked.prog.underlying t with | some (.int k)=>some k | _=>none)))=true:=by kernel_rfl
theorem q06n:((Rows.universeRisesRow.pinned == Rows.universeRisesRow.pinnedBy))=true:=by kernel_rfl
theorem q06p:((Rows.universeRisesRow.veiled == (f7.params.toList ++ Rows.universeRisesSpec.plain.varTypes Tryz.pinned.checked.prog ++ f7.resultTypes.toList).any (Tryz.pinned.checked.prog.veiledRec ·)))=true:=by kernel_rfl
theorem q06q:(Rows.universeRisesRow.veiledFits Tryz.pinned.checked.prog f7.params.toList (f7.params.toList ++ Rows.universeRisesSpec.plain.varTypes Tryz.pinned.checked.prog ++ f7.resultTypes.toList))=true:=by kernel_rfl
set_option maxRecDepth 100000 in
theorem q06x:joinedFacts Tryz.pinned.checked.prog 7 f7 Rows.universeRisesSpec Rows.universeRisesRow=true:=by
 unfold joinedFacts;exact (q0j (q0j (q0j (q0j (q0j (q0j (q0j (q0j (q0j (q0j (q0j (q0j (q0j (q0j (q0j (q0j (q0j (q0j (q0j (q0j (q0j (q0j (q0j (q0j (q0j (q0j (q0j (q0j (q0j (q0j (q0j q061 q062) q06d) q06o) q06r) q06s) q06t) q06u) q06v) q06w) q063) q064) q065) q066) q067) q068) q069) q06a) q06b) q06c) q06e) q06f) q06g) q06h) q06i) q06j) q06k) q06l) q06m) q06n) q06p) q06q)
end

end Go.Proofs.YtbfikenbgfnfiaaGreatDoor
