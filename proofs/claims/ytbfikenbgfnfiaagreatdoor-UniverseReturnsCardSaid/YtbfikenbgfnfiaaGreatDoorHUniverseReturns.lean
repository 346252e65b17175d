/- Lemmas and contracts of functions, joined for the claim: UniverseReturnsFacts. -/
import Derived.Test.YtbfikenbgfnfiaaGreatDoorMLaw
namespace Go.Proofs.YtbfikenbgfnfiaaGreatDoor
set_option maxHeartbeats 32000000
open _root_.Go.Proofs.Tryz

section
open Go.ChangeShapes Go.ChangeMaps Go.WideShapes Go.ChangeAt Go.RowKit
theorem q0j {a b:Bool} (ha:a=true) (hb:b=true):(a && b)=true:=by rw [ha,hb];rfl
theorem qx2:(Rows.universeReturnsRow.wf (OpenSpec.ofChange Rows.universeReturnsSpec))=true:=by kernel_rfl
theorem qx3:(laidOutB Tryz.pinned.checked.prog)=true:=by kernel_rfl
theorem qxe:(mapsRowed Tryz.pinned.checked.prog)=true:=by kernel_rfl
theorem qxp:(f5.params.all (Tryz.pinned.checked.prog.readableRec ·))=true:=by kernel_rfl
theorem qxs:(namedTie Tryz.pinned.checked.prog Rows.universeReturnsRow.named Rows.universeReturnsSpec.vars)=true:=by kernel_rfl
theorem qxt:((Rows.universeReturnsRow.stops == []))=true:=by kernel_rfl
theorem qxu:((Tryz.pinned.checked.prog.stops == []))=true:=by kernel_rfl
theorem qxv:((Rows.universeReturnsRow.knobs == []))=true:=by kernel_rfl
theorem qxw:((Tryz.pinned.checked.prog.stopKnobs == []))=true:=by kernel_rfl
theorem qxx:((Rows.universeReturnsRow.inPlace == Tryz.pinned.checked.prog.inPlace 5))=true:=by kernel_rfl
theorem qx4:((Rows.universeReturnsRow.unfollowed == Tryz.pinned.checked.prog.unfollowed 5))=true:=by kernel_rfl
theorem qx5:((Rows.universeReturnsRow.recurses == Tryz.pinned.checked.prog.recurses 5))=true:=by kernel_rfl
theorem qx6:((Rows.universeReturnsRow.named == Tryz.pinned.checked.prog.varsNamed 5))=true:=by kernel_rfl
theorem qx7:((Rows.universeReturnsRow.maps == (f5.params.toList ++ Rows.universeReturnsSpec.plain.varTypes Tryz.pinned.checked.prog).any (Tryz.pinned.checked.prog.mapsRec ·)))=true:=by kernel_rfl
theorem qx8:((Rows.universeReturnsRow.ifaces == (f5.params.toList ++ Rows.universeReturnsSpec.plain.varTypes Tryz.pinned.checked.prog).any (Tryz.pinned.checked.prog.ifacesRec ·)))=true:=by kernel_rfl
theorem qx9:((Rows.universeReturnsRow.mapsOut == Tryz.pinned.checked.prog.mapsAmong f5.resultTypes.toList))=true:=by kernel_rfl
theorem qxa:((Rows.universeReturnsRow.loops == (f5.params.toList ++ Rows.universeReturnsSpec.plain.varTypes Tryz.pinned.checked.prog).any (Tryz.pinned.checked.prog.loopsFrom ·)))=true:=by kernel_rfl
theorem qxb:((Rows.universeReturnsRow.wideKeys == (f5.params.toList ++ Rows.universeReturnsSpec.plain.varTypes Tryz.pinned.checked.prog ++ f5.resultTypes.toList).any (Tryz.pinned.checked.prog.wideKeysFrom ·)))=true:=by kernel_rfl
theorem qxc:(Rows.universeReturnsSpec.vars.all (Tryz.pinned.checked.prog.varReadable ·))=true:=by kernel_rfl
theorem qxd:(f5.resultTypes.all (fun t=>Tryz.pinned.checked.prog.readableRec t && decide (t<Tryz.pinned.checked.prog.types.size)))=true:=by kernel_rfl
theorem qxf:((Rows.universeReturnsRow.ifacesOut == f5.resultTypes.toList.any (Tryz.pinned.checked.prog.ifacesRec ·)))=true:=by kernel_rfl
theorem qxg:((Rows.universeReturnsRow.loopsOut == f5.resultTypes.toList.any (Tryz.pinned.checked.prog.loopsFrom ·)))=true:=by kernel_rfl
theorem qxh:((Rows.universeReturnsRow.plainKeys == Tryz.pinned.checked.prog.plainKeys))=true:=by kernel_rfl
theorem qxi:(Rows.universeReturnsRow.shortTexts.isNone)=true:=by kernel_rfl
theorem qxj:(Tryz.pinned.checked.prog.stopsHeard)=true:=by kernel_rfl
theorem qxk:(Tryz.pinned.checked.prog.mayEnter)=true:=by kernel_rfl
theorem qxl:((Rows.universeReturnsRow.lifted == Tryz.pinned.checked.prog.liftsFinal))=true:=by kernel_rfl
theorem qxm:((Tryz.pinned.checked.prog.make == some Rows.universeReturnsRow.make))=true:=by kernel_rfl
theorem qxn:((Rows.universeReturnsRow.kinds == (if Rows.universeReturnsRow.domain.isEmpty then [] else f5.params.toList.map fun t=>match Tryz.pinned.checked.prog.underlying t with | some (.int k)=>some k | _=>none)))=true:=by kernel_rfl
theorem qxo:((Rows.universeReturnsRow.pinned == Rows.universeReturnsRow.pinnedBy))=true:=by kernel_rfl
theorem qxq:((Rows.universeReturnsRow.veiled == (f5.params.toList ++ Rows.universeReturnsSpec.plain.varTypes Tryz.pinned.checked.prog ++ f5.resultTypes.toList).any (Tryz.pinned.checked.prog.veiledRec ·)))=true:=by kernel_rfl
theorem qxr:(Rows.universeReturnsRow.veiledFits Tryz.pinned.checked.prog f5.params.toList (f5.params.toList ++ Rows.universeReturnsSpec.plain.varTypes Tryz.pinned.checked.prog ++ f5.resultTypes.toList))=true:=by kernel_rfl
set_option maxRecDepth 100000 in
theorem qxy:joinedFacts Tryz.pinned.checked.prog 5 f5 Rows.universeReturnsSpec Rows.universeReturnsRow=true:=by
 unfold joinedFacts;exact (q0j (q0j (q0j (q0j (q0j (q0j (q0j (q0j (q0j (q0j (q0j (q0j (q0j (q0j (q0j (q0j (q0j (q0j (q0j (q0j (q0j (q0j (q0j (q0j (q0j (q0j (q0j (q0j (q0j (q0j (q0j qx2 qx3) qxe) qxp) qxs) qxt) qxu) qxv) qxw) qxx) qx4) qx5) qx6) qx7) qx8) qx9) qxa) qxb) qxc) qxd) qxf) qxg) qxh) qxi) qxj) qxk) qxl) qxm) qxn) qxo) qxq) qxr)
end

end Go.Proofs.YtbfikenbgfnfiaaGreatDoor
