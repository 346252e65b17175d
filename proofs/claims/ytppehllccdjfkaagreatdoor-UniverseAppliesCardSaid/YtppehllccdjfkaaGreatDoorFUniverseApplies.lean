/- Lemmas and contracts of functions, joined for the claim: UniverseAppliesFacts. -/
import Derived.Test.YtppehllccdjfkaaGreatDoorGLaw
namespace Go.Proofs.YtppehllccdjfkaaGreatDoor
open Go.ChangeShapes Go.ChangeMaps Go.WideShapes Go.ChangeAt Go.RowKit

theorem and_both {a b : Bool} (ha : a = true) (hb : b = true) : (a && b) = true := by rw [ha, hb]; rfl
theorem universeApplies_f0 : (Rows.universeAppliesRow.wf (OpenSpec.ofChange Rows.universeAppliesSpec)) = true := by kernel_rfl
theorem universeApplies_f1 : (laidOutB Tryz.pinned.checked.prog) = true := by kernel_rfl
theorem universeApplies_f2 : (mapsRowed Tryz.pinned.checked.prog) = true := by kernel_rfl
theorem universeApplies_f3 : (Tryz.f5.params.all (Tryz.pinned.checked.prog.readableRec ·)) = true := by kernel_rfl
theorem universeApplies_f4 : (namedTie Tryz.pinned.checked.prog Rows.universeAppliesRow.named Rows.universeAppliesSpec.vars) = true := by kernel_rfl
theorem universeApplies_f5 : ((Rows.universeAppliesRow.stops == [])) = true := by kernel_rfl
theorem universeApplies_f6 : ((Tryz.pinned.checked.prog.stops == [])) = true := by kernel_rfl
theorem universeApplies_f7 : ((Rows.universeAppliesRow.knobs == [])) = true := by kernel_rfl
theorem universeApplies_f8 : ((Tryz.pinned.checked.prog.stopKnobs == [])) = true := by kernel_rfl
theorem universeApplies_f9 : ((Rows.universeAppliesRow.inPlace == Tryz.pinned.checked.prog.inPlace 5)) = true := by kernel_rfl
theorem universeApplies_f10 : ((Rows.universeAppliesRow.unfollowed == Tryz.pinned.checked.prog.unfollowed 5)) = true := by kernel_rfl
theorem universeApplies_f11 : ((Rows.universeAppliesRow.recurses == Tryz.pinned.checked.prog.recurses 5)) = true := by kernel_rfl
theorem universeApplies_f12 : ((Rows.universeAppliesRow.named == Tryz.pinned.checked.prog.varsNamed 5)) = true := by kernel_rfl
theorem universeApplies_f13 : ((Rows.universeAppliesRow.maps == (Tryz.f5.params.toList ++ Rows.universeAppliesSpec.plain.varTypes Tryz.pinned.checked.prog).any (Tryz.pinned.checked.prog.mapsRec ·))) = true := by kernel_rfl
theorem universeApplies_f14 : ((Rows.universeAppliesRow.ifaces == (Tryz.f5.params.toList ++ Rows.universeAppliesSpec.plain.varTypes Tryz.pinned.checked.prog).any (Tryz.pinned.checked.prog.ifacesRec ·))) = true := by kernel_rfl
theorem universeApplies_f15 : ((Rows.universeAppliesRow.mapsOut == Tryz.pinned.checked.prog.mapsAmong Tryz.f5.resultTypes.toList)) = true := by kernel_rfl
theorem universeApplies_f16 : ((Rows.universeAppliesRow.loops == (Tryz.f5.params.toList ++ Rows.universeAppliesSpec.plain.varTypes Tryz.pinned.checked.prog).any (Tryz.pinned.checked.prog.loopsFrom ·))) = true := by kernel_rfl
theorem universeApplies_f17 : ((Rows.universeAppliesRow.wideKeys == (Tryz.f5.params.toList ++ Rows.universeAppliesSpec.plain.varTypes Tryz.pinned.checked.prog ++ Tryz.f5.resultTypes.toList).any (Tryz.pinned.checked.prog.wideKeysFrom ·))) = true := by kernel_rfl
theorem universeApplies_f18 : (Rows.universeAppliesSpec.vars.all (Tryz.pinned.checked.prog.varReadable ·)) = true := by kernel_rfl
theorem universeApplies_f19 : (Tryz.f5.resultTypes.all (fun t => Tryz.pinned.checked.prog.readableRec t && decide (t < Tryz.pinned.checked.prog.types.size))) = true := by kernel_rfl
theorem universeApplies_f20 : ((Rows.universeAppliesRow.ifacesOut == Tryz.f5.resultTypes.toList.any (Tryz.pinned.checked.prog.ifacesRec ·))) = true := by kernel_rfl
theorem universeApplies_f21 : ((Rows.universeAppliesRow.loopsOut == Tryz.f5.resultTypes.toList.any (Tryz.pinned.checked.prog.loopsFrom ·))) = true := by kernel_rfl
theorem universeApplies_f22 : ((Rows.universeAppliesRow.plainKeys == Tryz.pinned.checked.prog.plainKeys)) = true := by kernel_rfl
theorem universeApplies_f23 : (Rows.universeAppliesRow.shortTexts.isNone) = true := by kernel_rfl
theorem universeApplies_f24 : (Tryz.pinned.checked.prog.stopsHeard) = true := by kernel_rfl
theorem universeApplies_f25 : (Tryz.pinned.checked.prog.mayEnter) = true := by kernel_rfl
theorem universeApplies_f26 : ((Rows.universeAppliesRow.lifted == Tryz.pinned.checked.prog.liftsFinal)) = true := by kernel_rfl
theorem universeApplies_f27 : ((Tryz.pinned.checked.prog.make == some Rows.universeAppliesRow.make)) = true := by kernel_rfl
theorem universeApplies_f28 : ((Rows.universeAppliesRow.kinds == (if Rows.universeAppliesRow.domain.isEmpty then [] else Tryz.f5.params.toList.map fun t => match Tryz.pinned.checked.prog.underlying t with | some (.int k) => some k | _ => none))) = true := by kernel_rfl
theorem universeApplies_f29 : ((Rows.universeAppliesRow.pinned == Rows.universeAppliesRow.pinnedBy)) = true := by kernel_rfl
theorem universeApplies_f30 : ((Rows.universeAppliesRow.veiled == (Tryz.f5.params.toList ++ Rows.universeAppliesSpec.plain.varTypes Tryz.pinned.checked.prog ++ Tryz.f5.resultTypes.toList).any (Tryz.pinned.checked.prog.veiledRec ·))) = true := by kernel_rfl
theorem universeApplies_f31 : (Rows.universeAppliesRow.veiledFits Tryz.pinned.checked.prog Tryz.f5.params.toList (Tryz.f5.params.toList ++ Rows.universeAppliesSpec.plain.varTypes Tryz.pinned.checked.prog ++ Tryz.f5.resultTypes.toList)) = true := by kernel_rfl
set_option maxRecDepth 100000 in
theorem universeApplies_facts : joinedFacts Tryz.pinned.checked.prog 5 Tryz.f5 Rows.universeAppliesSpec Rows.universeAppliesRow = true := by
  unfold joinedFacts
  exact (and_both (and_both (and_both (and_both (and_both (and_both (and_both (and_both (and_both (and_both (and_both (and_both (and_both (and_both (and_both (and_both (and_both (and_both (and_both (and_both (and_both (and_both (and_both (and_both (and_both (and_both (and_both (and_both (and_both (and_both (and_both universeApplies_f0 universeApplies_f1) universeApplies_f2) universeApplies_f3) universeApplies_f4) universeApplies_f5) universeApplies_f6) universeApplies_f7) universeApplies_f8) universeApplies_f9) universeApplies_f10) universeApplies_f11) universeApplies_f12) universeApplies_f13) universeApplies_f14) universeApplies_f15) universeApplies_f16) universeApplies_f17) universeApplies_f18) universeApplies_f19) universeApplies_f20) universeApplies_f21) universeApplies_f22) universeApplies_f23) universeApplies_f24) universeApplies_f25) universeApplies_f26) universeApplies_f27) universeApplies_f28) universeApplies_f29) universeApplies_f30) universeApplies_f31)
end Go.Proofs.YtppehllccdjfkaaGreatDoor
