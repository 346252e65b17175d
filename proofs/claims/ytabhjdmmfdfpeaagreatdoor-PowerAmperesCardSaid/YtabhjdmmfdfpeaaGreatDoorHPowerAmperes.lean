/- Lemmas. -/
import Derived.Test.YtabhjdmmfdfpeaaGreatDoorMLaw
namespace Go.Proofs.YtabhjdmmfdfpeaaGreatDoor
set_option maxHeartbeats 32000000
open _root_.Go.Proofs.Tryz

section
open Go.ChangeShapes Go.ChangeMaps Go.WideShapes Go.ChangeAt Go.RowKit
theorem q0j {a b:Bool} (ha:a=true) (hb:b=true):(a && b)=true:=by rw [ha,hb];rfl
theorem q0gc:(Rows.powerAmperesRow.wf (OpenSpec.ofChange Rows.powerAmperesSpec))=true:=by kernel_rfl
theorem q0gd:(laidOutB Tryz.pinned.checked.prog)=true:=by kernel_rfl
theorem q0go:(mapsRowed Tryz.pinned.checked.prog)=true:=by kernel_rfl
theorem q0gz:(f4.params.all (Tryz.pinned.checked.prog.readableRec ·))=true:=by kernel_rfl
theorem q0h2:(namedTie Tryz.pinned.checked.prog Rows.powerAmperesRow.named Rows.powerAmperesSpec.vars)=true:=by kernel_rfl
theorem q0h3:((Rows.powerAmperesRow.stops == []))=true:=by kernel_rfl
theorem q0h4:((Tryz.pinned.checked.prog.stops == []))=true:=by kernel_rfl
theorem q0h5:((Rows.powerAmperesRow.knobs == []))=true:=by kernel_rfl
theorem q0h6:((Tryz.pinned.checked.prog.stopKnobs == []))=true:=by kernel_rfl
theorem q0h7:((Rows.powerAmperesRow.inPlace == Tryz.pinned.checked.prog.inPlace 4))=true:=by kernel_rfl
theorem q0ge:((Rows.powerAmperesRow.unfollowed == Tryz.pinned.checked.prog.unfollowed 4))=true:=by kernel_rfl
theorem q0gf:((Rows.powerAmperesRow.recurses == Tryz.pinned.checked.prog.recurses 4))=true:=by kernel_rfl
theorem q0gg:((Rows.powerAmperesRow.named == Tryz.pinned.checked.prog.varsNamed 4))=true:=by kernel_rfl
theorem q0gh:((Rows.powerAmperesRow.maps == (f4.params.toList ++ Rows.powerAmperesSpec.plain.varTypes Tryz.pinned.checked.prog).any (Tryz.pinned.checked.prog.mapsRec ·)))=true:=by kernel_rfl
theorem q0gi:((Rows.powerAmperesRow.ifaces == (f4.params.toList ++ Rows.powerAmperesSpec.plain.varTypes Tryz.pinned.checked.prog).any (Tryz.pinned.checked.prog.ifacesRec ·)))=true:=by kernel_rfl
theorem q0gj:((Rows.powerAmperesRow.mapsOut == Tryz.pinned.checked.prog.mapsAmong f4.resultTypes.toList))=true:=by kernel_rfl
theorem q0gk:((Rows.powerAmperesRow.loops == (f4.params.toList ++ Rows.powerAmperesSpec.plain.varTypes Tryz.pinned.checked.prog).any (Tryz.pinned.checked.prog.loopsFrom ·)))=true:=by kernel_rfl
theorem q0gl:((Rows.powerAmperesRow.wideKeys == (f4.params.toList ++ Rows.powerAmperesSpec.plain.varTypes Tryz.pinned.checked.prog ++ f4.resultTypes.toList).any (Tryz.pinned.checked.prog.wideKeysFrom ·)))=true:=by kernel_rfl
theorem q0gm:(Rows.powerAmperesSpec.vars.all (Tryz.pinned.checked.prog.varReadable ·))=true:=by kernel_rfl
theorem q0gn:(f4.resultTypes.all (fun t=>Tryz.pinned.checked.prog.readableRec t && decide (t<Tryz.pinned.checked.prog.types.size)))=true:=by kernel_rfl
theorem q0gp:((Rows.powerAmperesRow.ifacesOut == f4.resultTypes.toList.any (Tryz.pinned.checked.prog.ifacesRec ·)))=true:=by kernel_rfl
theorem q0gq:((Rows.powerAmperesRow.loopsOut == f4.resultTypes.toList.any (Tryz.pinned.checked.prog.loopsFrom ·)))=true:=by kernel_rfl
theorem q0gr:((Rows.powerAmperesRow.plainKeys == Tryz.pinned.checked.prog.plainKeys))=true:=by kernel_rfl
theorem q0gs:(Rows.powerAmperesRow.shortTexts.isNone)=true:=by kernel_rfl
theorem q0gt:(Tryz.pinned.checked.prog.stopsHeard)=true:=by kernel_rfl
theorem q0gu:(Tryz.pinned.checked.prog.mayEnter)=true:=by kernel_rfl
theorem q0gv:((Rows.powerAmperesRow.lifted == Tryz.pinned.checked.prog.liftsFinal))=true:=by kernel_rfl
theorem q0gw:((Tryz.pinned.checked.prog.make == some Rows.powerAmperesRow.make))=true:=by kernel_rfl
theorem q0gx:((Rows.powerAmperesRow.kinds == (if Rows.powerAmperesRow.domain.isEmpty then [] else f4.params.toList.map fun t=>match Tryz.pinned.checked.prog.underlying t with | some (.int k)=>some k | _=>none)))=true:=by kernel_rfl
theorem q0gy:((Rows.powerAmperesRow.pinned == Rows.powerAmperesRow.pinnedBy))=true:=by kernel_rfl
theorem q0h0:((Rows.powerAmperesRow.veiled == (f4.params.toList ++ Rows.powerAmperesSpec.plain.varTypes Tryz.pinned.checked.prog ++ f4.resultTypes.toList).any (Tryz.pinned.checked.prog.veiledRec ·)))=true:=by kernel_rfl
theorem q0h1:(Rows.powerAmperesRow.veiledFits Tryz.pinned.checked.prog f4.params.toList (f4.params.toList ++ Rows.powerAmperesSpec.plain.varTypes Tryz.pinned.checked.prog ++ f4.resultTypes.toList))=true:=by kernel_rfl
set_option maxRecDepth 100000 in
theorem q0h8:joinedFacts Tryz.pinned.checked.prog 4 f4 Rows.powerAmperesSpec Rows.powerAmperesRow=true:=by
 unfold joinedFacts;exact (q0j (q0j (q0j (q0j (q0j (q0j (q0j (q0j (q0j (q0j (q0j (q0j (q0j (q0j (q0j (q0j (q0j (q0j (q0j (q0j (q0j (q0j (q0j (q0j (q0j (q0j (q0j (q0j (q0j (q0j (q0j q0gc q0gd) q0go) q0gz) q0h2) q0h3) q0h4) q0h5) q0h6) q0h7) q0ge) q0gf) q0gg) q0gh) q0gi) q0gj) q0gk) q0gl) q0gm) q0gn) q0gp) q0gq) q0gr) q0gs) q0gt) q0gu) q0gv) q0gw) q0gx) q0gy) q0h0) q0h1)
end

end Go.Proofs.YtabhjdmmfdfpeaaGreatDoor
