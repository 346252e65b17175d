/- TopLooksParts: for every input the law returns true, and its arguments read behind the call as they read before. The package variables that the row lists hold what the program's text lays. -/
import Derived.Test.YtbhkfemebionnaaGreatDoorMLawP
import Derived.Test.YtbhkfemebionnaaGreatDoorMOpen
import Derived.Test.YtbhkfemebionnaaGreatDoorMZet
import Derived.Test.YtbhkfemebionnaaGreatDoorCards
import Derived.Test.YtbhkfemebionnaaGreatDoorTie
import Derived.SevenTiedAt
import Derived.SizedLaws
namespace Go.Proofs.YtbhkfemebionnaaGreatDoor
open Go.RowKit

theorem top_looks_parts (w : World) (g : LG) (hg : g.good w) (t : Tm) (_ : True) (_ : Laid w) :
    Calls Tryz.prog 3 #[.agg g.cs.toArray, .agg (shTm.cs t).toArray] w fun e w' => e = .returned (.bool true) ∧ Below w.heap.size w w' := by
  obtain ⟨X, h1, h2, h3⟩ := hg
  exact tparts_walk g.no g.pri g.A g.n g.c X t.up t.dn t.po t.co t.be t.de w h1 h2 h3
end Go.Proofs.YtbhkfemebionnaaGreatDoor

namespace Go.Proofs.YtbhkfemebionnaaGreatDoor
open Go.ChangeShapes Go.ChangeMaps Go.WideShapes Go.ChangeAt Go.RowKit

theorem and_both {a b : Bool} (ha : a = true) (hb : b = true) : (a && b) = true := by rw [ha, hb]; rfl
theorem topLooksParts_f0 : (Rows.topLooksPartsRow.wf (OpenSpec.ofChange Rows.topLooksPartsSpec)) = true := by kernel_rfl
theorem topLooksParts_f1 : (laidOutB Tryz.pinned.checked.prog) = true := by kernel_rfl
theorem topLooksParts_f2 : (mapsRowed Tryz.pinned.checked.prog) = true := by kernel_rfl
theorem topLooksParts_f3 : (Tryz.f3.params.all (Tryz.pinned.checked.prog.readableRec ·)) = true := by kernel_rfl
theorem topLooksParts_f4 : (namedTie Tryz.pinned.checked.prog Rows.topLooksPartsRow.named Rows.topLooksPartsSpec.vars) = true := by kernel_rfl
theorem topLooksParts_f5 : ((Rows.topLooksPartsRow.stops == [])) = true := by kernel_rfl
theorem topLooksParts_f6 : ((Tryz.pinned.checked.prog.stops == [])) = true := by kernel_rfl
theorem topLooksParts_f7 : ((Rows.topLooksPartsRow.knobs == [])) = true := by kernel_rfl
theorem topLooksParts_f8 : ((Tryz.pinned.checked.prog.stopKnobs == [])) = true := by kernel_rfl
theorem topLooksParts_f9 : ((Rows.topLooksPartsRow.inPlace == Tryz.pinned.checked.prog.inPlace 3)) = true := by kernel_rfl
theorem topLooksParts_f10 : ((Rows.topLooksPartsRow.unfollowed == Tryz.pinned.checked.prog.unfollowed 3)) = true := by kernel_rfl
theorem topLooksParts_f11 : ((Rows.topLooksPartsRow.recurses == Tryz.pinned.checked.prog.recurses 3)) = true := by kernel_rfl
theorem topLooksParts_f12 : ((Rows.topLooksPartsRow.named == Tryz.pinned.checked.prog.varsNamed 3)) = true := by kernel_rfl
theorem topLooksParts_f13 : ((Rows.topLooksPartsRow.maps == (Tryz.f3.params.toList ++ Rows.topLooksPartsSpec.plain.varTypes Tryz.pinned.checked.prog).any (Tryz.pinned.checked.prog.mapsRec ·))) = true := by kernel_rfl
theorem topLooksParts_f14 : ((Rows.topLooksPartsRow.ifaces == (Tryz.f3.params.toList ++ Rows.topLooksPartsSpec.plain.varTypes Tryz.pinned.checked.prog).any (Tryz.pinned.checked.prog.ifacesRec ·))) = true := by kernel_rfl
theorem topLooksParts_f15 : ((Rows.topLooksPartsRow.mapsOut == Tryz.pinned.checked.prog.mapsAmong Tryz.f3.resultTypes.toList)) = true := by kernel_rfl
theorem topLooksParts_f16 : ((Rows.topLooksPartsRow.loops == (Tryz.f3.params.toList ++ Rows.topLooksPartsSpec.plain.varTypes Tryz.pinned.checked.prog).any (Tryz.pinned.checked.prog.loopsFrom ·))) = true := by kernel_rfl
theorem topLooksParts_f17 : ((Rows.topLooksPartsRow.wideKeys == (Tryz.f3.params.toList ++ Rows.topLooksPartsSpec.plain.varTypes Tryz.pinned.checked.prog ++ Tryz.f3.resultTypes.toList).any (Tryz.pinned.checked.prog.wideKeysFrom ·))) = true := by kernel_rfl
theorem topLooksParts_f18 : (Rows.topLooksPartsSpec.vars.all (Tryz.pinned.checked.prog.varReadable ·)) = true := by kernel_rfl
theorem topLooksParts_f19 : (Tryz.f3.resultTypes.all (fun t => Tryz.pinned.checked.prog.readableRec t && decide (t < Tryz.pinned.checked.prog.types.size))) = true := by kernel_rfl
theorem topLooksParts_f20 : ((Rows.topLooksPartsRow.ifacesOut == Tryz.f3.resultTypes.toList.any (Tryz.pinned.checked.prog.ifacesRec ·))) = true := by kernel_rfl
theorem topLooksParts_f21 : ((Rows.topLooksPartsRow.loopsOut == Tryz.f3.resultTypes.toList.any (Tryz.pinned.checked.prog.loopsFrom ·))) = true := by kernel_rfl
theorem topLooksParts_f22 : ((Rows.topLooksPartsRow.plainKeys == Tryz.pinned.checked.prog.plainKeys)) = true := by kernel_rfl
theorem topLooksParts_f23 : (Rows.topLooksPartsRow.shortTexts.isNone) = true := by kernel_rfl
theorem topLooksParts_f24 : (Tryz.pinned.checked.prog.stopsHeard) = true := by kernel_rfl
theorem topLooksParts_f25 : (Tryz.pinned.checked.prog.mayEnter) = true := by kernel_rfl
theorem topLooksParts_f26 : ((Rows.topLooksPartsRow.lifted == Tryz.pinned.checked.prog.liftsFinal)) = true := by kernel_rfl
theorem topLooksParts_f27 : ((Tryz.pinned.checked.prog.make == some Rows.topLooksPartsRow.make)) = true := by kernel_rfl
theorem topLooksParts_f28 : ((Rows.topLooksPartsRow.kinds == (if Rows.topLooksPartsRow.domain.isEmpty then [] else Tryz.f3.params.toList.map fun t => match Tryz.pinned.checked.prog.underlying t with | some (.int k) => some k | _ => none))) = true := by kernel_rfl
theorem topLooksParts_f29 : ((Rows.topLooksPartsRow.pinned == Rows.topLooksPartsRow.pinnedBy)) = true := by kernel_rfl
theorem topLooksParts_f30 : ((Rows.topLooksPartsRow.veiled == (Tryz.f3.params.toList ++ Rows.topLooksPartsSpec.plain.varTypes Tryz.pinned.checked.prog ++ Tryz.f3.resultTypes.toList).any (Tryz.pinned.checked.prog.veiledRec ·))) = true := by kernel_rfl
theorem topLooksParts_f31 : (Rows.topLooksPartsRow.veiledFits Tryz.pinned.checked.prog Tryz.f3.params.toList (Tryz.f3.params.toList ++ Rows.topLooksPartsSpec.plain.varTypes Tryz.pinned.checked.prog ++ Tryz.f3.resultTypes.toList)) = true := by kernel_rfl
set_option maxRecDepth 100000 in
theorem topLooksParts_facts : joinedFacts Tryz.pinned.checked.prog 3 Tryz.f3 Rows.topLooksPartsSpec Rows.topLooksPartsRow = true := by
  unfold joinedFacts
  exact (and_both (and_both (and_both (and_both (and_both (and_both (and_both (and_both (and_both (and_both (and_both (and_both (and_both (and_both (and_both (and_both (and_both (and_both (and_both (and_both (and_both (and_both (and_both (and_both (and_both (and_both (and_both (and_both (and_both (and_both (and_both topLooksParts_f0 topLooksParts_f1) topLooksParts_f2) topLooksParts_f3) topLooksParts_f4) topLooksParts_f5) topLooksParts_f6) topLooksParts_f7) topLooksParts_f8) topLooksParts_f9) topLooksParts_f10) topLooksParts_f11) topLooksParts_f12) topLooksParts_f13) topLooksParts_f14) topLooksParts_f15) topLooksParts_f16) topLooksParts_f17) topLooksParts_f18) topLooksParts_f19) topLooksParts_f20) topLooksParts_f21) topLooksParts_f22) topLooksParts_f23) topLooksParts_f24) topLooksParts_f25) topLooksParts_f26) topLooksParts_f27) topLooksParts_f28) topLooksParts_f29) topLooksParts_f30) topLooksParts_f31)
end Go.Proofs.YtbhkfemebionnaaGreatDoor

namespace Go.Proofs.YtbhkfemebionnaaGreatDoor.topLooksPartsP
open Go.ChangeShapes Go.ChangeMaps Go.WideShapes Go.ChangeAt Go.RowKit

set_option maxRecDepth 100000 in
theorem lifted (os : Os) (started : os.Started) (H : Type) (enc : TypeId × Value → H) :
    ReturnsInHanded {} Tryz.checked os 3 .any (fun w args => (Rows.topLooksPartsSpec.pre enc Tryz.prog Tryz.f3 [] false w args ∧ laidMetH Tryz.prog Rows.topLooksPartsRow.laid w) ∧ sizedMet enc Tryz.prog Tryz.f3 (OpenSpec.ofChange Rows.topLooksPartsSpec) false w args)
      (Rows.topLooksPartsSpec.post enc Tryz.prog Tryz.f3 false true false false) := by
  refine returnsInHanded_of_change_and (C := Tryz.checked) (X := fun w _ => laidMetH Tryz.prog Rows.topLooksPartsRow.laid w) (fun _ _ _ hh h => h.of_heap hh) own_ started (by kernel_rfl) Tryz.func3
    (ChangeSpec.witness_at (enc := enc) (C := Tryz.checked) (os := os) (X := fun w _ => laidMetH Tryz.prog Rows.topLooksPartsRow.laid w) false (laidWorld os) #[.agg #[.int .i64 0, .int .i64 0, .slice none 0 0], .agg #[.int .i64 0, .int .i64 0, .int .i64 0, .int .i64 0, .int .i64 0, .int .i64 0]] 8 rfl (by kernel_rfl) (by kernel_rfl) (by kernel_rfl) (by kernel_rfl) (by kernel_rfl) (laid_met os _)) ?_
  intro W base args ds gs before hval0 hW _ hWt hL _
  have hval : ∀ (j : Nat) t v, Tryz.f3.params[j]? = some t → args[j]? = some v → Value.okWide Tryz.prog W .any base t v := hval0
  have hW' := hW
  obtain ⟨p, q, hA0, hV, rfl, hfz, hnd⟩ := hW
  have hA : DataW.TrodAll enc Tryz.prog W 0 (fun _ => true) true Tryz.f3.params.toList args.toList ds p := hA0
  rw [Tryz.params3] at hA hval hWt
  obtain ⟨v0, vs0, d0, ds0, p0, q0, hargs, rfl, rfl, h0, r0⟩ := trodAll_cons hA
  obtain ⟨v1, vs1, d1, ds1, p1, q1, rfl, rfl, rfl, h1, r1⟩ := trodAll_cons r0
  obtain ⟨rfl, rfl, rfl⟩ := trodAll_nil r1
  obtain rfl : args = #[v0, v1] := by cases args; simp_all
  obtain ⟨rfl, rfl⟩ := trodVars_none hV
  have lt0 : ∀ x ∈ p0, x.block < W.heap.size := by obtain ⟨m, hm⟩ := h0; exact DataW.trod_lt m _ _ _ hm
  obtain ⟨cs0, fuel0, y0, rfl, hf0⟩ := agg_open Tryz.underlying24 (hval 0 24 v0 rfl rfl) h0
  obtain ⟨g0, rfl, hg0⟩ := list_cells hf0
  have lt1 : ∀ x ∈ p1, x.block < W.heap.size := by obtain ⟨m, hm⟩ := h1; exact DataW.trod_lt m _ _ _ hm
  obtain ⟨cs1, fuel1, y1, rfl, hf1⟩ := agg_open Tryz.underlying26 (hval 1 26 v1 rfl rfl) h1
  obtain ⟨g1, rfl, hg1⟩ := timing_cells hf1
  clear hA0 hval0 hWt
  simp only [List.append_nil] at hW'
  refine (top_looks_parts W g0 hg0 g1 hg1 (laid_of hL)).mono fun e W' ⟨he, bel⟩ => ?_
  subst he
  exact ⟨_, rfl, _, _, _, [], _, [], hW', trodAll_mk1 (shut_bool Tryz.underlying4 _), (trodAll_cons_mk (Below.trod laidOut (by kernel_rfl) (of_decide_eq_true (by kernel_rfl)) h0 bel lt0) (trodAll_cons_mk (Below.trod laidOut (by kernel_rfl) (of_decide_eq_true (by kernel_rfl)) h1 bel lt1) trodAll_mk0)), rfl, bel.frame _, fun h => by cases h⟩

theorem over : Rows.topLooksPartsRow.holds Tryz.pinned (OpenSpec.ofChange Rows.topLooksPartsSpec) :=
  OpenClaim.holds_of_wide 3 Tryz.f3 rfl rfl rfl rfl rfl rfl rfl ⟨rfl, rfl, rfl, rfl, rfl⟩ rfl rfl rfl rfl rfl (by kernel_rfl) Tryz.func3 topLooksParts_facts
    (of_decide_eq_true (by kernel_rfl)) (by unfold Func.isWrapper; rw [if_neg (of_decide_eq_false (by kernel_rfl))]; exact ⟨rfl, rfl⟩)
    (fun os started H enc _ => lifted os started H enc)

theorem noStandIn : ∀ t ∈ Tryz.f3.params.toList, Tryz.prog.wantsStandIn t = false := by
  rw [Tryz.params3]
  intro t ht
  simp only [List.mem_cons, List.not_mem_nil, or_false] at ht
  rcases ht with rfl | rfl <;> kernel_rfl

theorem limb1 : OpenClaim.wfByText (OpenSpec.ofChange Rows.topLooksPartsSpec) Rows.topLooksPartsRow = true := by kernel_rfl
theorem limb2 : Tryz.pinned.checked.prog.mainIs = some ((true, "a62d3067bbce1daa59e2469251933622e6a9275891be88d865cbd07251931137").1, (true, "a62d3067bbce1daa59e2469251933622e6a9275891be88d865cbd07251931137").2.toList) := by kernel_rfl
theorem limb3 : true = Tryz.pinned.checked.prog.looks [] := by kernel_rfl
theorem limb4 : false = Rows.topLooksPartsRow.goesBy Tryz.pinned.checked.prog := by kernel_rfl
theorem limb5 : Tryz.prog.funcNamed "luminaire/luminairetop.TopLooksParts" = some 3 := by kernel_rfl

theorem proved : Rows.TopLooksPartsCardSaid :=
  Claim7.holds_tied_plain_at .later [] [.data, .data, .data, .sentinel, .sentinel] true (true, "a62d3067bbce1daa59e2469251933622e6a9275891be88d865cbd07251931137") true
    over (fun _ h => by cases h) limb1 (fun _ h => by cases h) topLooksParts_row_tie rfl ⟨rfl, rfl⟩ limb2 rfl
    (fun f fn hf hfn => by
      obtain rfl : f = 3 := Option.some.inj (limb5.symm.trans hf) |>.symm
      obtain rfl : fn = Tryz.f3 := (Option.some.inj (Tryz.func3.symm.trans hfn)).symm
      exact ⟨limb3, fun j t ht => noStandIn t (Array.mem_toList_iff.2 (Array.mem_of_getElem? ht))⟩)
    limb4
#print axioms proved
end Go.Proofs.YtbhkfemebionnaaGreatDoor.topLooksPartsP
