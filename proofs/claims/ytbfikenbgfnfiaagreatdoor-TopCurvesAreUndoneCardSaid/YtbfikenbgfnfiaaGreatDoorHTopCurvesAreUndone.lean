/- Lemmas and contracts of functions, joined for the claim: TopCurvesAreUndoneFacts. -/
import Derived.Test.YtbfikenbgfnfiaaGreatDoorKLaw
namespace Go.Proofs.YtbfikenbgfnfiaaGreatDoor
set_option maxHeartbeats 32000000
open _root_.Go.Proofs.Tryz

section
open Go.ChangeShapes Go.ChangeMaps Go.WideShapes Go.ChangeAt Go.RowKit
theorem q0j {a b:Bool} (ha:a=true) (hb:b=true):(a && b)=true:=by rw [ha,hb];rfl
theorem q02b:(Rows.topCurvesAreUndoneRow.wf (OpenSpec.ofChange Rows.topCurvesAreUndoneSpec))=true:=by kernel_rfl
theorem q02c:(laidOutB Tryz.pinned.checked.prog)=true:=by kernel_rfl
theorem q02n:(mapsRowed Tryz.pinned.checked.prog)=true:=by kernel_rfl
theorem q02y:(f10.params.all (Tryz.pinned.checked.prog.readableRec ·))=true:=by kernel_rfl
theorem q031:(namedTie Tryz.pinned.checked.prog Rows.topCurvesAreUndoneRow.named Rows.topCurvesAreUndoneSpec.vars)=true:=by kernel_rfl
theorem q032:((Rows.topCurvesAreUndoneRow.stops == []))=true:=by kernel_rfl
theorem q033:((Tryz.pinned.checked.prog.stops == []))=true:=by kernel_rfl
theorem q034:((Rows.topCurvesAreUndoneRow.knobs == []))=true:=by kernel_rfl
theorem q035:((Tryz.pinned.checked.prog.stopKnobs == []))=true:=by kernel_rfl
theorem q036:((Rows.topCurvesAreUndoneRow.inPlace == Tryz.pinned.checked.prog.inPlace 10))=true:=by kernel_rfl
theorem q02d:((Rows.topCurvesAreUndoneRow.unfollowed == Tryz.pinned.checked.prog.unfollowed 10))=true:=by kernel_rfl
theorem q02e:((Rows.topCurvesAreUndoneRow.recurses == Tryz.pinned.checked.prog.recurses 10))=true:=by kernel_rfl
theorem q02f:((Rows.topCurvesAreUndoneRow.named == Tryz.pinned.checked.prog.varsNamed 10))=true:=by kernel_rfl
theorem q02g:((Rows.topCurvesAreUndoneRow.maps == (f10.params.toList ++ Rows.topCurvesAreUndoneSpec.plain.varTypes Tryz.pinned.checked.prog).any (Tryz.pinned.checked.prog.mapsRec ·)))=true:=by kernel_rfl
theorem q02h:((Rows.topCurvesAreUndoneRow.ifaces == (f10.params.toList ++ Rows.topCurvesAreUndoneSpec.plain.varTypes Tryz.pinned.checked.prog).any (Tryz.pinned.checked.prog.ifacesRec ·)))=true:=by kernel_rfl
theorem q02i:((Rows.topCurvesAreUndoneRow.mapsOut == Tryz.pinned.checked.prog.mapsAmong f10.resultTypes.toList))=true:=by kernel_rfl
theorem q02j:((Rows.topCurvesAreUndoneRow.loops == (f10.params.toList ++ Rows.topCurvesAreUndoneSpec.plain.varTypes Tryz.pinned.checked.prog).any (Tryz.pinned.checked.prog.loopsFrom ·)))=true:=by kernel_rfl
theorem q02k:((Rows.topCurvesAreUndoneRow.wideKeys == (f10.params.toList ++ Rows.topCurvesAreUndoneSpec.plain.varTypes Tryz.pinned.checked.prog ++ f10.resultTypes.toList).any (Tryz.pinned.checked.prog.wideKeysFrom ·)))=true:=by kernel_rfl
theorem q02l:(Rows.topCurvesAreUndoneSpec.vars.all (Tryz.pinned.checked.prog.varReadable ·))=true:=by kernel_rfl
theorem q02m:(f10.resultTypes.all (fun t=>Tryz.pinned.checked.prog.readableRec t && decide (t<Tryz.pinned.checked.prog.types.size)))=true:=by kernel_rfl
theorem q02o:((Rows.topCurvesAreUndoneRow.ifacesOut == f10.resultTypes.toList.any (Tryz.pinned.checked.prog.ifacesRec ·)))=true:=by kernel_rfl
theorem q02p:((Rows.topCurvesAreUndoneRow.loopsOut == f10.resultTypes.toList.any (Tryz.pinned.checked.prog.loopsFrom ·)))=true:=by kernel_rfl
theorem q02q:((Rows.topCurvesAreUndoneRow.plainKeys == Tryz.pinned.checked.prog.plainKeys))=true:=by kernel_rfl
theorem q02r:(Rows.topCurvesAreUndoneRow.shortTexts.isNone)=true:=by kernel_rfl
theorem q02s:(Tryz.pinned.checked.prog.stopsHeard)=true:=by kernel_rfl
theorem q02t:(Tryz.pinned.checked.prog.mayEnter)=true:=by kernel_rfl
theorem q02u:((Rows.topCurvesAreUndoneRow.lifted == Tryz.pinned.checked.prog.liftsFinal))=true:=by kernel_rfl
theorem q02v:((Tryz.pinned.checked.prog.make == some Rows.topCurvesAreUndoneRow.make))=true:=by kernel_rfl
theorem q02w:((Rows.topCurvesAreUndoneRow.kinds == (if Rows.topCurvesAreUndoneRow.domain.isEmpty then [] else f10.params.toList.map fun t=>match Tryz.pinned.checked.prog.underlying t with | some (.int k)=>some k | _=>none)))=true:=by kernel_rfl
theorem q02x:((Rows.topCurvesAreUndoneRow.pinned == Rows.topCurvesAreUndoneRow.pinnedBy))=true:=by kernel_rfl
theorem q02z:((Rows.topCurvesAreUndoneRow.veiled == (f10.params.toList ++ Rows.topCurvesAreUndoneSpec.plain.varTypes Tryz.pinned.checked.prog ++ f10.resultTypes.toList).any (Tryz.pinned.checked.prog.veiledRec ·)))=true:=by kernel_rfl
theorem q030:(Rows.topCurvesAreUndoneRow.veiledFits Tryz.pinned.checked.prog f10.params.toList (f10.params.toList ++ Rows.topCurvesAreUndoneSpec.plain.varTypes Tryz.pinned.checked.prog ++ f10.resultTypes.toList))=true:=by kernel_rfl
set_option maxRecDepth 100000 in
theorem q037:joinedFacts Tryz.pinned.checked.prog 10 f10 Rows.topCurvesAreUndoneSpec Rows.topCurvesAreUndoneRow=true:=by
 unfold joinedFacts;exact (q0j (q0j (q0j (q0j (q0j (q0j (q0j (q0j (q0j (q0j (q0j (q0j (q0j (q0j (q0j (q0j (q0j (q0j (q0j (q0j (q0j (q0j (q0j (q0j (q0j (q0j (q0j (q0j (q0j (q0j (q0j q02b q02c) q02n) q02y) q031) q032) q033) q034) q035) q036) q02d) q02e) q02f) q02g) q02h) q02i) q02j) q02k) q02l) q02m) q02o) q02p) q02q) q02r) q02s) q02t) q02u) q02v) q02w) q02x) q02z) q030)
end

end Go.Proofs.YtbfikenbgfnfiaaGreatDoor
