/- Lemmas and contracts of functions, joined for the claim: TopBytesAreTheirsFacts. -/
import Derived.Test.YtbfikenbgfnfiaaGreatDoorMLaw
namespace Go.Proofs.YtbfikenbgfnfiaaGreatDoor
set_option maxHeartbeats 32000000
open _root_.Go.Proofs.Tryz

section
open Go.ChangeShapes Go.ChangeMaps Go.WideShapes Go.ChangeAt Go.RowKit
theorem q0j {a b:Bool} (ha:a=true) (hb:b=true):(a && b)=true:=by rw [ha,hb];rfl
theorem q03m:(Rows.topBytesAreTheirsRow.wf (OpenSpec.ofChange Rows.topBytesAreTheirsSpec))=true:=by kernel_rfl
theorem q03n:(laidOutB Tryz.pinned.checked.prog)=true:=by kernel_rfl
theorem q03y:(mapsRowed Tryz.pinned.checked.prog)=true:=by kernel_rfl
theorem q049:(f9.params.all (Tryz.pinned.checked.prog.readableRec ·))=true:=by kernel_rfl
theorem q04c:(namedTie Tryz.pinned.checked.prog Rows.topBytesAreTheirsRow.named Rows.topBytesAreTheirsSpec.vars)=true:=by kernel_rfl
theorem q04d:((Rows.topBytesAreTheirsRow.stops == []))=true:=by kernel_rfl
theorem q04e:((Tryz.pinned.checked.prog.stops == []))=true:=by kernel_rfl
theorem q04f:((Rows.topBytesAreTheirsRow.knobs == []))=true:=by kernel_rfl
theorem q04g:((Tryz.pinned.checked.prog.stopKnobs == []))=true:=by kernel_rfl
theorem q04h:((Rows.topBytesAreTheirsRow.inPlace == Tryz.pinned.checked.prog.inPlace 9))=true:=by kernel_rfl
theorem q03o:((Rows.topBytesAreTheirsRow.unfollowed == Tryz.pinned.checked.prog.unfollowed 9))=true:=by kernel_rfl
theorem q03p:((Rows.topBytesAreTheirsRow.recurses == Tryz.pinned.checked.prog.recurses 9))=true:=by kernel_rfl
theorem q03q:((Rows.topBytesAreTheirsRow.named == Tryz.pinned.checked.prog.varsNamed 9))=true:=by kernel_rfl
theorem q03r:((Rows.topBytesAreTheirsRow.maps == (f9.params.toList ++ Rows.topBytesAreTheirsSpec.plain.varTypes Tryz.pinned.checked.prog).any (Tryz.pinned.checked.prog.mapsRec ·)))=true:=by kernel_rfl
theorem q03s:((Rows.topBytesAreTheirsRow.ifaces == (f9.params.toList ++ Rows.topBytesAreTheirsSpec.plain.varTypes Tryz.pinned.checked.prog).any (Tryz.pinned.checked.prog.ifacesRec ·)))=true:=by kernel_rfl
theorem q03t:((Rows.topBytesAreTheirsRow.mapsOut == Tryz.pinned.checked.prog.mapsAmong f9.resultTypes.toList))=true:=by kernel_rfl
theorem q03u:((Rows.topBytesAreTheirsRow.loops == (f9.params.toList ++ Rows.topBytesAreTheirsSpec.plain.varTypes Tryz.pinned.checked.prog).any (Tryz.pinned.checked.prog.loopsFrom ·)))=true:=by kernel_rfl
theorem q03v:((Rows.topBytesAreTheirsRow.wideKeys == (f9.params.toList ++ Rows.topBytesAreTheirsSpec.plain.varTypes Tryz.pinned.checked.prog ++ f9.resultTypes.toList).any (Tryz.pinned.checked.prog.wideKeysFrom ·)))=true:=by kernel_rfl
theorem q03w:(Rows.topBytesAreTheirsSpec.vars.all (Tryz.pinned.checked.prog.varReadable ·))=true:=by kernel_rfl
theorem q03x:(f9.resultTypes.all (fun t=>Tryz.pinned.checked.prog.readableRec t && decide (t<Tryz.pinned.checked.prog.types.size)))=true:=by kernel_rfl
theorem q03z:((Rows.topBytesAreTheirsRow.ifacesOut == f9.resultTypes.toList.any (Tryz.pinned.checked.prog.ifacesRec ·)))=true:=by kernel_rfl
theorem q040:((Rows.topBytesAreTheirsRow.loopsOut == f9.resultTypes.toList.any (Tryz.pinned.checked.prog.loopsFrom ·)))=true:=by kernel_rfl
theorem q041:((Rows.topBytesAreTheirsRow.plainKeys == Tryz.pinned.checked.prog.plainKeys))=true:=by kernel_rfl
theorem q042:(Rows.topBytesAreTheirsRow.shortTexts.isNone)=true:=by kernel_rfl
theorem q043:(Tryz.pinned.checked.prog.stopsHeard)=true:=by kernel_rfl
theorem q044:(Tryz.pinned.checked.prog.mayEnter)=true:=by kernel_rfl
theorem q045:((Rows.topBytesAreTheirsRow.lifted == Tryz.pinned.checked.prog.liftsFinal))=true:=by kernel_rfl
theorem q046:((Tryz.pinned.checked.prog.make == some Rows.topBytesAreTheirsRow.make))=true:=by kernel_rfl
theorem q047:((Rows.topBytesAreTheirsRow.kinds == (if Rows.topBytesAreTheirsRow.domain.isEmpty then [] else f9.params.toList.map fun t=>match Tryz.pinned.checked.prog.underlying t with | some (.int k)=>some k | _=>none)))=true:=by kernel_rfl
theorem q048:((Rows.topBytesAreTheirsRow.pinned == Rows.topBytesAreTheirsRow.pinnedBy))=true:=by kernel_rfl
theorem q04a:((Rows.topBytesAreTheirsRow.veiled == (f9.params.toList ++ Rows.topBytesAreTheirsSpec.plain.varTypes Tryz.pinned.checked.prog ++ f9.resultTypes.toList).any (Tryz.pinned.checked.prog.veiledRec ·)))=true:=by kernel_rfl
theorem q04b:(Rows.topBytesAreTheirsRow.veiledFits Tryz.pinned.checked.prog f9.params.toList (f9.params.toList ++ Rows.topBytesAreTheirsSpec.plain.varTypes Tryz.pinned.checked.prog ++ f9.resultTypes.toList))=true:=by kernel_rfl
set_option maxRecDepth 100000 in
theorem q04i:joinedFacts Tryz.pinned.checked.prog 9 f9 Rows.topBytesAreTheirsSpec Rows.topBytesAreTheirsRow=true:=by
 unfold joinedFacts;exact (q0j (q0j (q0j (q0j (q0j (q0j (q0j (q0j (q0j (q0j (q0j (q0j (q0j (q0j (q0j (q0j (q0j (q0j (q0j (q0j (q0j (q0j (q0j (q0j (q0j (q0j (q0j (q0j (q0j (q0j (q0j q03m q03n) q03y) q049) q04c) q04d) q04e) q04f) q04g) q04h) q03o) q03p) q03q) q03r) q03s) q03t) q03u) q03v) q03w) q03x) q03z) q040) q041) q042) q043) q044) q045) q046) q047) q048) q04a) q04b)
end

end Go.Proofs.YtbfikenbgfnfiaaGreatDoor
