/- Lemmas and contracts of functions, joined for the claim: UniverseMakesFacts. -/
import Derived.Test.YtbfikenbgfnfiaaGreatDoorMLaw
namespace Go.Proofs.YtbfikenbgfnfiaaGreatDoor
set_option maxHeartbeats 32000000
open _root_.Go.Proofs.Tryz

section
open Go.ChangeShapes Go.ChangeMaps Go.WideShapes Go.ChangeAt Go.RowKit
theorem q0j {a b:Bool} (ha:a=true) (hb:b=true):(a && b)=true:=by rw [ha,hb];rfl
theorem qw5:(Rows.universeMakesRow.wf (OpenSpec.ofChange Rows.universeMakesSpec))=true:=by kernel_rfl
theorem qw6:(laidOutB Tryz.pinned.checked.prog)=true:=by kernel_rfl
theorem qwh:(mapsRowed Tryz.pinned.checked.prog)=true:=by kernel_rfl
theorem qws:(f3.params.all (Tryz.pinned.checked.prog.readableRec ·))=true:=by kernel_rfl
theorem qwv:(namedTie Tryz.pinned.checked.prog Rows.universeMakesRow.named Rows.universeMakesSpec.vars)=true:=by kernel_rfl
theorem qww:((Rows.universeMakesRow.stops == []))=true:=by kernel_rfl
theorem qwx:((Tryz.pinned.checked.prog.stops == []))=true:=by kernel_rfl
theorem qwy:((Rows.universeMakesRow.knobs == []))=true:=by kernel_rfl
theorem qwz:((Tryz.pinned.checked.prog.stopKnobs == []))=true:=by kernel_rfl
theorem qx0:((Rows.universeMakesRow.inPlace == Tryz.pinned.checked.prog.inPlace 3))=true:=by kernel_rfl
theorem qw7:((Rows.universeMakesRow.unfollowed == Tryz.pinned.checked.prog.unfollowed 3))=true:=by kernel_rfl
theorem qw8:((Rows.universeMakesRow.recurses == Tryz.pinned.checked.prog.recurses 3))=true:=by kernel_rfl
theorem qw9:((Rows.universeMakesRow.named == Tryz.pinned.checked.prog.varsNamed 3))=true:=by kernel_rfl
theorem qwa:((Rows.universeMakesRow.maps == (f3.params.toList ++ Rows.universeMakesSpec.plain.varTypes Tryz.pinned.checked.prog).any (Tryz.pinned.checked.prog.mapsRec ·)))=true:=by kernel_rfl
theorem qwb:((Rows.universeMakesRow.ifaces == (f3.params.toList ++ Rows.universeMakesSpec.plain.varTypes Tryz.pinned.checked.prog).any (Tryz.pinned.checked.prog.ifacesRec ·)))=true:=by kernel_rfl
theorem qwc:((Rows.universeMakesRow.mapsOut == Tryz.pinned.checked.prog.mapsAmong f3.resultTypes.toList))=true:=by kernel_rfl
theorem qwd:((Rows.universeMakesRow.loops == (f3.params.toList ++ Rows.universeMakesSpec.plain.varTypes Tryz.pinned.checked.prog).any (Tryz.pinned.checked.prog.loopsFrom ·)))=true:=by kernel_rfl
theorem qwe:((Rows.universeMakesRow.wideKeys == (f3.params.toList ++ Rows.universeMakesSpec.plain.varTypes Tryz.pinned.checked.prog ++ f3.resultTypes.toList).any (Tryz.pinned.checked.prog.wideKeysFrom ·)))=true:=by kernel_rfl
theorem qwf:(Rows.universeMakesSpec.vars.all (Tryz.pinned.checked.prog.varReadable ·))=true:=by kernel_rfl
theorem qwg:(f3.resultTypes.all (fun t=>Tryz.pinned.checked.prog.readableRec t && decide (t<Tryz.pinned.checked.prog.types.size)))=true:=by kernel_rfl
theorem qwi:((Rows.universeMakesRow.ifacesOut == f3.resultTypes.toList.any (Tryz.pinned.checked.prog.ifacesRec ·)))=true:=by kernel_rfl
theorem qwj:((Rows.universeMakesRow.loopsOut == f3.resultTypes.toList.any (Tryz.pinned.checked.prog.loopsFrom ·)))=true:=by kernel_rfl
theorem qwk:((Rows.universeMakesRow.plainKeys == Tryz.pinned.checked.prog.plainKeys))=true:=by kernel_rfl
theorem qwl:(Rows.universeMakesRow.shortTexts.isNone)=true:=by kernel_rfl
theorem qwm:(Tryz.pinned.checked.prog.stopsHeard)=true:=by kernel_rfl
theorem qwn:(Tryz.pinned.checked.prog.mayEnter)=true:=by kernel_rfl
theorem qwo:((Rows.universeMakesRow.lifted == Tryz.pinned.checked.prog.liftsFinal))=true:=by kernel_rfl
theorem qwp:((Tryz.pinned.checked.prog.make == some Rows.universeMakesRow.make))=true:=by kernel_rfl
theorem qwq:((Rows.universeMakesRow.kinds == (if Rows.universeMakesRow.domain.isEmpty then [] else f3.params.toList.map fun t=>match Tryz.pinned.checked.prog.underlying t with | some (.int k)=>some k | _=>none)))=true:=by kernel_rfl
theorem qwr:((Rows.universeMakesRow.pinned == Rows.universeMakesRow.pinnedBy))=true:=by kernel_rfl
theorem qwt:((Rows.universeMakesRow.veiled == (f3.params.toList ++ Rows.universeMakesSpec.plain.varTypes Tryz.pinned.checked.prog ++ f3.resultTypes.toList).any (Tryz.pinned.checked.prog.veiledRec ·)))=true:=by kernel_rfl
theorem qwu:(Rows.universeMakesRow.veiledFits Tryz.pinned.checked.prog f3.params.toList (f3.params.toList ++ Rows.universeMakesSpec.plain.varTypes Tryz.pinned.checked.prog ++ f3.resultTypes.toList))=true:=by kernel_rfl
set_option maxRecDepth 100000 in
theorem qx1:joinedFacts Tryz.pinned.checked.prog 3 f3 Rows.universeMakesSpec Rows.universeMakesRow=true:=by
 unfold joinedFacts;exact (q0j (q0j (q0j (q0j (q0j (q0j (q0j (q0j (q0j (q0j (q0j (q0j (q0j (q0j (q0j (q0j (q0j (q0j (q0j (q0j (q0j (q0j (q0j (q0j (q0j (q0j (q0j (q0j (q0j (q0j (q0j qw5 qw6) qwh) qws) qwv) qww) qwx) qwy) qwz) qx0) qw7) qw8) qw9) qwa) qwb) qwc) qwd) qwe) qwf) qwg) qwi) qwj) qwk) qwl) qwm) qwn) qwo) qwp) qwq) qwr) qwt) qwu)
end

end Go.Proofs.YtbfikenbgfnfiaaGreatDoor
