/- Lemmas and contracts of functions, joined for the claim: UniverseDependsFacts. -/
import Derived.Test.YtbfikenbgfnfiaaGreatDoorMLaw
namespace Go.Proofs.YtbfikenbgfnfiaaGreatDoor
set_option maxHeartbeats 32000000
open _root_.Go.Proofs.Tryz

section
open Go.ChangeShapes Go.ChangeMaps Go.WideShapes Go.ChangeAt Go.RowKit
theorem q0j {a b:Bool} (ha:a=true) (hb:b=true):(a && b)=true:=by rw [ha,hb];rfl
theorem qub:(Rows.universeDependsRow.wf (OpenSpec.ofChange Rows.universeDependsSpec))=true:=by kernel_rfl
theorem quc:(laidOutB Tryz.pinned.checked.prog)=true:=by kernel_rfl
theorem qun:(mapsRowed Tryz.pinned.checked.prog)=true:=by kernel_rfl
theorem quy:(f4.params.all (Tryz.pinned.checked.prog.readableRec ·))=true:=by kernel_rfl
theorem qv1:(namedTie Tryz.pinned.checked.prog Rows.universeDependsRow.named Rows.universeDependsSpec.vars)=true:=by kernel_rfl
theorem qv2:((Rows.universeDependsRow.stops == []))=true:=by kernel_rfl
theorem qv3:((Tryz.pinned.checked.prog.stops == []))=true:=by kernel_rfl
theorem qv4:((Rows.universeDependsRow.knobs == []))=true:=by kernel_rfl
theorem qv5:((Tryz.pinned.checked.prog.stopKnobs == []))=true:=by kernel_rfl
theorem qv6:((Rows.universeDependsRow.inPlace == Tryz.pinned.checked.prog.inPlace 4))=true:=by kernel_rfl
theorem qud:((Rows.universeDependsRow.unfollowed == Tryz.pinned.checked.prog.unfollowed 4))=true:=by kernel_rfl
theorem que:((Rows.universeDependsRow.recurses == Tryz.pinned.checked.prog.recurses 4))=true:=by kernel_rfl
theorem quf:((Rows.universeDependsRow.named == Tryz.pinned.checked.prog.varsNamed 4))=true:=by kernel_rfl
theorem qug:((Rows.universeDependsRow.maps == (f4.params.toList ++ Rows.universeDependsSpec.plain.varTypes Tryz.pinned.checked.prog).any (Tryz.pinned.checked.prog.mapsRec ·)))=true:=by kernel_rfl
theorem quh:((Rows.universeDependsRow.ifaces == (f4.params.toList ++ Rows.universeDependsSpec.plain.varTypes Tryz.pinned.checked.prog).any (Tryz.pinned.checked.prog.ifacesRec ·)))=true:=by kernel_rfl
theorem qui:((Rows.universeDependsRow.mapsOut == Tryz.pinned.checked.prog.mapsAmong f4.resultTypes.toList))=true:=by kernel_rfl
theorem quj:((Rows.universeDependsRow.loops == (f4.params.toList ++ Rows.universeDependsSpec.plain.varTypes Tryz.pinned.checked.prog).any (Tryz.pinned.checked.prog.loopsFrom ·)))=true:=by kernel_rfl
theorem quk:((Rows.universeDependsRow.wideKeys == (f4.params.toList ++ Rows.universeDependsSpec.plain.varTypes Tryz.pinned.checked.prog ++ f4.resultTypes.toList).any (Tryz.pinned.checked.prog.wideKeysFrom ·)))=true:=by kernel_rfl
theorem qul:(Rows.universeDependsSpec.vars.all (Tryz.pinned.checked.prog.varReadable ·))=true:=by kernel_rfl
theorem qum:(f4.resultTypes.all (fun t=>Tryz.pinned.checked.prog.readableRec t && decide (t<Tryz.pinned.checked.prog.types.size)))=true:=by kernel_rfl
theorem quo:((Rows.universeDependsRow.ifacesOut == f4.resultTypes.toList.any (Tryz.pinned.checked.prog.ifacesRec ·)))=true:=by kernel_rfl
theorem qup:((Rows.universeDependsRow.loopsOut == f4.resultTypes.toList.any (Tryz.pinned.checked.prog.loopsFrom ·)))=true:=by kernel_rfl
theorem quq:((Rows.universeDependsRow.plainKeys == Tryz.pinned.checked.prog.plainKeys))=true:=by kernel_rfl
theorem qur:(Rows.universeDependsRow.shortTexts.isNone)=true:=by kernel_rfl
theorem qus:(Tryz.pinned.checked.prog.stopsHeard)=true:=by kernel_rfl
theorem qut:(Tryz.pinned.checked.prog.mayEnter)=true:=by kernel_rfl
theorem quu:((Rows.universeDependsRow.lifted == Tryz.pinned.checked.prog.liftsFinal))=true:=by kernel_rfl
theorem quv:((Tryz.pinned.checked.prog.make == some Rows.universeDependsRow.make))=true:=by kernel_rfl
theorem quw:((Rows.universeDependsRow.kinds == (if Rows.universeDependsRow.domain.isEmpty then [] else f4.params.toList.map fun t=>match Tryz.pinned.checked.prog.underlying t with | some (.int k)=>some k | _=>none)))=true:=by kernel_rfl
theorem qux:((Rows.universeDependsRow.pinned == Rows.universeDependsRow.pinnedBy))=true:=by kernel_rfl
theorem quz:((Rows.universeDependsRow.veiled == (f4.params.toList ++ Rows.universeDependsSpec.plain.varTypes Tryz.pinned.checked.prog ++ f4.resultTypes.toList).any (Tryz.pinned.checked.prog.veiledRec ·)))=true:=by kernel_rfl
theorem qv0:(Rows.universeDependsRow.veiledFits Tryz.pinned.checked.prog f4.params.toList (f4.params.toList ++ Rows.universeDependsSpec.plain.varTypes Tryz.pinned.checked.prog ++ f4.resultTypes.toList))=true:=by kernel_rfl
set_option maxRecDepth 100000 in
theorem qv7:joinedFacts Tryz.pinned.checked.prog 4 f4 Rows.universeDependsSpec Rows.universeDependsRow=true:=by
 unfold joinedFacts;exact (q0j (q0j (q0j (q0j (q0j (q0j (q0j (q0j (q0j (q0j (q0j (q0j (q0j (q0j (q0j (q0j (q0j (q0j (q0j (q0j (q0j (q0j (q0j (q0j (q0j (q0j (q0j (q0j (q0j (q0j (q0j qub quc) qun) quy) qv1) qv2) qv3) qv4) qv5) qv6) qud) que) quf) qug) quh) qui) quj) quk) qul) qum) quo) qup) quq) qur) qus) qut) quu) quv) quw) qux) quz) qv0)
end

end Go.Proofs.YtbfikenbgfnfiaaGreatDoor
