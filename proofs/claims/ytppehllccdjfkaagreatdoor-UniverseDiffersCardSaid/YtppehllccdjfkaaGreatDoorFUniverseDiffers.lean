/- Lemmas and contracts of functions, joined for the claim: UniverseDiffersFacts. -/
import Derived.Test.YtppehllccdjfkaaGreatDoorGLaw
namespace Go.Proofs.YtppehllccdjfkaaGreatDoor
open Go.ChangeShapes Go.ChangeMaps Go.WideShapes Go.ChangeAt Go.RowKit

theorem and_both {a b : Bool} (ha : a = true) (hb : b = true) : (a && b) = true := by rw [ha, hb]; rfl
theorem universeDiffers_f0 : (Rows.universeDiffersRow.wf (OpenSpec.ofChange Rows.universeDiffersSpec)) = true := by kernel_rfl
theorem universeDiffers_f1 : (laidOutB Tryz.pinned.checked.prog) = true := by kernel_rfl
theorem universeDiffers_f2 : (mapsRowed Tryz.pinned.checked.prog) = true := by kernel_rfl
theorem universeDiffers_f3 : (Tryz.f6.params.all (Tryz.pinned.checked.prog.readableRec ·)) = true := by kernel_rfl
theorem universeDiffers_f4 : (namedTie Tryz.pinned.checked.prog Rows.universeDiffersRow.named Rows.universeDiffersSpec.vars) = true := by kernel_rfl
theorem universeDiffers_f5 : ((Rows.universeDiffersRow.stops == [])) = true := by kernel_rfl
theorem universeDiffers_f6 : ((Tryz.pinned.checked.prog.stops == [])) = true := by kernel_rfl
theorem universeDiffers_f7 : ((Rows.universeDiffersRow.knobs == [])) = true := by kernel_rfl
theorem universeDiffers_f8 : ((Tryz.pinned.checked.prog.stopKnobs == [])) = true := by kernel_rfl
theorem universeDiffers_f9 : ((Rows.universeDiffersRow.inPlace == Tryz.pinned.checked.prog.inPlace 6)) = true := by kernel_rfl
theorem universeDiffers_f10 : ((Rows.universeDiffersRow.unfollowed == Tryz.pinned.checked.prog.unfollowed 6)) = true := by kernel_rfl
theorem universeDiffers_f11 : ((Rows.universeDiffersRow.recurses == Tryz.pinned.checked.prog.recurses 6)) = true := by kernel_rfl
theorem universeDiffers_f12 : ((Rows.universeDiffersRow.named == Tryz.pinned.checked.prog.varsNamed 6)) = true := by kernel_rfl
theorem universeDiffers_f13 : ((Rows.universeDiffersRow.maps == (Tryz.f6.params.toList ++ Rows.universeDiffersSpec.plain.varTypes Tryz.pinned.checked.prog).any (Tryz.pinned.checked.prog.mapsRec ·))) = true := by kernel_rfl
theorem universeDiffers_f14 : ((Rows.universeDiffersRow.ifaces == (Tryz.f6.params.toList ++ Rows.universeDiffersSpec.plain.varTypes Tryz.pinned.checked.prog).any (Tryz.pinned.checked.prog.ifacesRec ·))) = true := by kernel_rfl
theorem universeDiffers_f15 : ((Rows.universeDiffersRow.mapsOut == Tryz.pinned.checked.prog.mapsAmong Tryz.f6.resultTypes.toList)) = true := by kernel_rfl
theorem universeDiffers_f16 : ((Rows.universeDiffersRow.loops == (Tryz.f6.params.toList ++ Rows.universeDiffersSpec.plain.varTypes Tryz.pinned.checked.prog).any (Tryz.pinned.checked.prog.loopsFrom ·))) = true := by kernel_rfl
theorem universeDiffers_f17 : ((Rows.universeDiffersRow.wideKeys == (Tryz.f6.params.toList ++ Rows.universeDiffersSpec.plain.varTypes Tryz.pinned.checked.prog ++ Tryz.f6.resultTypes.toList).any (Tryz.pinned.checked.prog.wideKeysFrom ·))) = true := by kernel_rfl
theorem universeDiffers_f18 : (Rows.universeDiffersSpec.vars.all (Tryz.pinned.checked.prog.varReadable ·)) = true := by kernel_rfl
theorem universeDiffers_f19 : (Tryz.f6.resultTypes.all (fun t => Tryz.pinned.checked.prog.readableRec t && decide (t < Tryz.pinned.checked.prog.types.size))) = true := by kernel_rfl
theorem universeDiffers_f20 : ((Rows.universeDiffersRow.ifacesOut == Tryz.f6.resultTypes.toList.any (Tryz.pinned.checked.prog.ifacesRec ·))) = true := by kernel_rfl
theorem universeDiffers_f21 : ((Rows.universeDiffersRow.loopsOut == Tryz.f6.resultTypes.toList.any (Tryz.pinned.checked.prog.loopsFrom ·))) = true := by kernel_rfl
theorem universeDiffers_f22 : ((Rows.universeDiffersRow.plainKeys == Tryz.pinned.checked.prog.plainKeys)) = true := by kernel_rfl
theorem universeDiffers_f23 : (Rows.universeDiffersRow.shortTexts.isNone) = true := by kernel_rfl
theorem universeDiffers_f24 : (Tryz.pinned.checked.prog.stopsHeard) = true := by kernel_rfl
theorem universeDiffers_f25 : (Tryz.pinned.checked.prog.mayEnter) = true := by kernel_rfl
theorem universeDiffers_f26 : ((Rows.universeDiffersRow.lifted == Tryz.pinned.checked.prog.liftsFinal)) = true := by kernel_rfl
theorem universeDiffers_f27 : ((Tryz.pinned.checked.prog.make == some Rows.universeDiffersRow.make)) = true := by kernel_rfl
theorem universeDiffers_f28 : ((Rows.universeDiffersRow.kinds == (if Rows.universeDiffersRow.domain.isEmpty then [] else Tryz.f6.params.toList.map fun t => match Tryz.pinned.checked.prog.underlying t with | some (.int k) => some k | _ => none))) = true := by kernel_rfl
theorem universeDiffers_f29 : ((Rows.universeDiffersRow.pinned == Rows.universeDiffersRow.pinnedBy)) = true := by kernel_rfl
theorem universeDiffers_f30 : ((Rows.universeDiffersRow.veiled == (Tryz.f6.params.toList ++ Rows.universeDiffersSpec.plain.varTypes Tryz.pinned.checked.prog ++ Tryz.f6.resultTypes.toList).any (Tryz.pinned.checked.prog.veiledRec ·))) = true := by kernel_rfl
theorem universeDiffers_f31 : (Rows.universeDiffersRow.veiledFits Tryz.pinned.checked.prog Tryz.f6.params.toList (Tryz.f6.params.toList ++ Rows.universeDiffersSpec.plain.varTypes Tryz.pinned.checked.prog ++ Tryz.f6.resultTypes.toList)) = true := by kernel_rfl
set_option maxRecDepth 100000 in
theorem universeDiffers_facts : joinedFacts Tryz.pinned.checked.prog 6 Tryz.f6 Rows.universeDiffersSpec Rows.universeDiffersRow = true := by
  unfold joinedFacts
  exact (and_both (and_both (and_both (and_both (and_both (and_both (and_both (and_both (and_both (and_both (and_both (and_both (and_both (and_both (and_both (and_both (and_both (and_both (and_both (and_both (and_both (and_both (and_both (and_both (and_both (and_both (and_both (and_both (and_both (and_both (and_both universeDiffers_f0 universeDiffers_f1) universeDiffers_f2) universeDiffers_f3) universeDiffers_f4) universeDiffers_f5) universeDiffers_f6) universeDiffers_f7) universeDiffers_f8) universeDiffers_f9) universeDiffers_f10) universeDiffers_f11) universeDiffers_f12) universeDiffers_f13) universeDiffers_f14) universeDiffers_f15) universeDiffers_f16) universeDiffers_f17) universeDiffers_f18) universeDiffers_f19) universeDiffers_f20) universeDiffers_f21) universeDiffers_f22) universeDiffers_f23) universeDiffers_f24) universeDiffers_f25) universeDiffers_f26) universeDiffers_f27) universeDiffers_f28) universeDiffers_f29) universeDiffers_f30) universeDiffers_f31)
end Go.Proofs.YtppehllccdjfkaaGreatDoor
