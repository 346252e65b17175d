/- Lemmas and contracts of functions, joined for the claim: UniverseChecksFacts. -/
import Derived.Test.YtppehllccdjfkaaGreatDoorGLaw
namespace Go.Proofs.YtppehllccdjfkaaGreatDoor
open Go.ChangeShapes Go.ChangeMaps Go.WideShapes Go.ChangeAt Go.RowKit

theorem and_both {a b : Bool} (ha : a = true) (hb : b = true) : (a && b) = true := by rw [ha, hb]; rfl
theorem universeChecks_f0 : (Rows.universeChecksRow.wf (OpenSpec.ofChange Rows.universeChecksSpec)) = true := by kernel_rfl
theorem universeChecks_f1 : (laidOutB Tryz.pinned.checked.prog) = true := by kernel_rfl
theorem universeChecks_f2 : (mapsRowed Tryz.pinned.checked.prog) = true := by kernel_rfl
theorem universeChecks_f3 : (Tryz.f4.params.all (Tryz.pinned.checked.prog.readableRec ·)) = true := by kernel_rfl
theorem universeChecks_f4 : (namedTie Tryz.pinned.checked.prog Rows.universeChecksRow.named Rows.universeChecksSpec.vars) = true := by kernel_rfl
theorem universeChecks_f5 : ((Rows.universeChecksRow.stops == [])) = true := by kernel_rfl
theorem universeChecks_f6 : ((Tryz.pinned.checked.prog.stops == [])) = true := by kernel_rfl
theorem universeChecks_f7 : ((Rows.universeChecksRow.knobs == [])) = true := by kernel_rfl
theorem universeChecks_f8 : ((Tryz.pinned.checked.prog.stopKnobs == [])) = true := by kernel_rfl
theorem universeChecks_f9 : ((Rows.universeChecksRow.inPlace == Tryz.pinned.checked.prog.inPlace 4)) = true := by kernel_rfl
theorem universeChecks_f10 : ((Rows.universeChecksRow.unfollowed == Tryz.pinned.checked.prog.unfollowed 4)) = true := by kernel_rfl
theorem universeChecks_f11 : ((Rows.universeChecksRow.recurses == Tryz.pinned.checked.prog.recurses 4)) = true := by kernel_rfl
theorem universeChecks_f12 : ((Rows.universeChecksRow.named == Tryz.pinned.checked.prog.varsNamed 4)) = true := by kernel_rfl
theorem universeChecks_f13 : ((Rows.universeChecksRow.maps == (Tryz.f4.params.toList ++ Rows.universeChecksSpec.plain.varTypes Tryz.pinned.checked.prog).any (Tryz.pinned.checked.prog.mapsRec ·))) = true := by kernel_rfl
theorem universeChecks_f14 : ((Rows.universeChecksRow.ifaces == (Tryz.f4.params.toList ++ Rows.universeChecksSpec.plain.varTypes Tryz.pinned.checked.prog).any (Tryz.pinned.checked.prog.ifacesRec ·))) = true := by kernel_rfl
theorem universeChecks_f15 : ((Rows.universeChecksRow.mapsOut == Tryz.pinned.checked.prog.mapsAmong Tryz.f4.resultTypes.toList)) = true := by kernel_rfl
theorem universeChecks_f16 : ((Rows.universeChecksRow.loops == (Tryz.f4.params.toList ++ Rows.universeChecksSpec.plain.varTypes Tryz.pinned.checked.prog).any (Tryz.pinned.checked.prog.loopsFrom ·))) = true := by kernel_rfl
theorem universeChecks_f17 : ((Rows.universeChecksRow.wideKeys == (Tryz.f4.params.toList ++ Rows.universeChecksSpec.plain.varTypes Tryz.pinned.checked.prog ++ Tryz.f4.resultTypes.toList).any (Tryz.pinned.checked.prog.wideKeysFrom ·))) = true := by kernel_rfl
theorem universeChecks_f18 : (Rows.universeChecksSpec.vars.all (Tryz.pinned.checked.prog.varReadable ·)) = true := by kernel_rfl
theorem universeChecks_f19 : (Tryz.f4.resultTypes.all (fun t => Tryz.pinned.checked.prog.readableRec t && decide (t < Tryz.pinned.checked.prog.types.size))) = true := by kernel_rfl
theorem universeChecks_f20 : ((Rows.universeChecksRow.ifacesOut == Tryz.f4.resultTypes.toList.any (Tryz.pinned.checked.prog.ifacesRec ·))) = true := by kernel_rfl
theorem universeChecks_f21 : ((Rows.universeChecksRow.loopsOut == Tryz.f4.resultTypes.toList.any (Tryz.pinned.checked.prog.loopsFrom ·))) = true := by kernel_rfl
theorem universeChecks_f22 : ((Rows.universeChecksRow.plainKeys == Tryz.pinned.checked.prog.plainKeys)) = true := by kernel_rfl
theorem universeChecks_f23 : (Rows.universeChecksRow.shortTexts.isNone) = true := by kernel_rfl
theorem universeChecks_f24 : (Tryz.pinned.checked.prog.stopsHeard) = true := by kernel_rfl
theorem universeChecks_f25 : (Tryz.pinned.checked.prog.mayEnter) = true := by kernel_rfl
theorem universeChecks_f26 : ((Rows.universeChecksRow.lifted == Tryz.pinned.checked.prog.liftsFinal)) = true := by kernel_rfl
theorem universeChecks_f27 : ((Tryz.pinned.checked.prog.make == some Rows.universeChecksRow.make)) = true := by kernel_rfl
theorem universeChecks_f28 : ((Rows.universeChecksRow.kinds == (if Rows.universeChecksRow.domain.isEmpty then [] else Tryz.f4.params.toList.map fun t => match Tryz.pinned.checked.prog.underlying t with | some (.int k) => some k | _ => none))) = true := by kernel_rfl
theorem universeChecks_f29 : ((Rows.universeChecksRow.pinned == Rows.universeChecksRow.pinnedBy)) = true := by kernel_rfl
theorem universeChecks_f30 : ((Rows.universeChecksRow.veiled == (Tryz.f4.params.toList ++ Rows.universeChecksSpec.plain.varTypes Tryz.pinned.checked.prog ++ Tryz.f4.resultTypes.toList).any (Tryz.pinned.checked.prog.veiledRec ·))) = true := by kernel_rfl
theorem universeChecks_f31 : (Rows.universeChecksRow.veiledFits Tryz.pinned.checked.prog Tryz.f4.params.toList (Tryz.f4.params.toList ++ Rows.universeChecksSpec.plain.varTypes Tryz.pinned.checked.prog ++ Tryz.f4.resultTypes.toList)) = true := by kernel_rfl
set_option maxRecDepth 100000 in
theorem universeChecks_facts : joinedFacts Tryz.pinned.checked.prog 4 Tryz.f4 Rows.universeChecksSpec Rows.universeChecksRow = true := by
  unfold joinedFacts
  exact (and_both (and_both (and_both (and_both (and_both (and_both (and_both (and_both (and_both (and_both (and_both (and_both (and_both (and_both (and_both (and_both (and_both (and_both (and_both (and_both (and_both (and_both (and_both (and_both (and_both (and_both (and_both (and_both (and_both (and_both (and_both universeChecks_f0 universeChecks_f1) universeChecks_f2) universeChecks_f3) universeChecks_f4) universeChecks_f5) universeChecks_f6) universeChecks_f7) universeChecks_f8) universeChecks_f9) universeChecks_f10) universeChecks_f11) universeChecks_f12) universeChecks_f13) universeChecks_f14) universeChecks_f15) universeChecks_f16) universeChecks_f17) universeChecks_f18) universeChecks_f19) universeChecks_f20) universeChecks_f21) universeChecks_f22) universeChecks_f23) universeChecks_f24) universeChecks_f25) universeChecks_f26) universeChecks_f27) universeChecks_f28) universeChecks_f29) universeChecks_f30) universeChecks_f31)
end Go.Proofs.YtppehllccdjfkaaGreatDoor
