/- TopLooksInsert: for every input the law returns true, and its arguments read behind the call as they read before. The package variables that the row lists hold what the program's text lays. -/
import Derived.Test.YtbhkfemebionnaaGreatDoorMLawI
import Derived.Test.YtbhkfemebionnaaGreatDoorMOpen
import Derived.Test.YtbhkfemebionnaaGreatDoorMZet
import Derived.Test.YtbhkfemebionnaaGreatDoorCards
import Derived.Test.YtbhkfemebionnaaGreatDoorTie
import Derived.SevenTiedAt
import Derived.SizedLaws
namespace Go.Proofs.YtbhkfemebionnaaGreatDoor
open Go.RowKit

theorem top_looks_insert (w : World) (g : LG) (hg : g.good w) (s : ByteArray) (hs : s.size ≤ maxLen) (_ : Laid w) :
    Calls Tryz.prog 4 #[.agg g.cs.toArray, .string s] w fun e w' => e = .returned (.bool true) ∧ Below w.heap.size w w' := by
  obtain ⟨X, h1, h2, h3⟩ := hg
  exact tinsert_walk g.no g.pri g.A g.n g.c X s w h1 h2 h3 (Nat.le_trans hs (by decide))
end Go.Proofs.YtbhkfemebionnaaGreatDoor

namespace Go.Proofs.YtbhkfemebionnaaGreatDoor
open Go.ChangeShapes Go.ChangeMaps Go.WideShapes Go.ChangeAt Go.RowKit

theorem and_both {a b : Bool} (ha : a = true) (hb : b = true) : (a && b) = true := by rw [ha, hb]; rfl
theorem topLooksInsert_f0 : (Rows.topLooksInsertRow.wf (OpenSpec.ofChange Rows.topLooksInsertSpec)) = true := by kernel_rfl
theorem topLooksInsert_f1 : (laidOutB Tryz.pinned.checked.prog) = true := by kernel_rfl
theorem topLooksInsert_f2 : (mapsRowed Tryz.pinned.checked.prog) = true := by kernel_rfl
theorem topLooksInsert_f3 : (Tryz.f4.params.all (Tryz.pinned.checked.prog.readableRec ·)) = true := by kernel_rfl
theorem topLooksInsert_f4 : (namedTie Tryz.pinned.checked.prog Rows.topLooksInsertRow.named Rows.topLooksInsertSpec.vars) = true := by kernel_rfl
theorem topLooksInsert_f5 : ((Rows.topLooksInsertRow.stops == [])) = true := by kernel_rfl
theorem topLooksInsert_f6 : ((Tryz.pinned.checked.prog.stops == [])) = true := by kernel_rfl
theorem topLooksInsert_f7 : ((Rows.topLooksInsertRow.knobs == [])) = true := by kernel_rfl
theorem topLooksInsert_f8 : ((Tryz.pinned.checked.prog.stopKnobs == [])) = true := by kernel_rfl
theorem topLooksInsert_f9 : ((Rows.topLooksInsertRow.inPlace == Tryz.pinned.checked.prog.inPlace 4)) = true := by kernel_rfl
theorem topLooksInsert_f10 : ((Rows.topLooksInsertRow.unfollowed == Tryz.pinned.checked.prog.unfollowed 4)) = true := by kernel_rfl
theorem topLooksInsert_f11 : ((Rows.topLooksInsertRow.recurses == Tryz.pinned.checked.prog.recurses 4)) = true := by kernel_rfl
theorem topLooksInsert_f12 : ((Rows.topLooksInsertRow.named == Tryz.pinned.checked.prog.varsNamed 4)) = true := by kernel_rfl
theorem topLooksInsert_f13 : ((Rows.topLooksInsertRow.maps == (Tryz.f4.params.toList ++ Rows.topLooksInsertSpec.plain.varTypes Tryz.pinned.checked.prog).any (Tryz.pinned.checked.prog.mapsRec ·))) = true := by kernel_rfl
theorem topLooksInsert_f14 : ((Rows.topLooksInsertRow.ifaces == (Tryz.f4.params.toList ++ Rows.topLooksInsertSpec.plain.varTypes Tryz.pinned.checked.prog).any (Tryz.pinned.checked.prog.ifacesRec ·))) = true := by kernel_rfl
theorem topLooksInsert_f15 : ((Rows.topLooksInsertRow.mapsOut == Tryz.pinned.checked.prog.mapsAmong Tryz.f4.resultTypes.toList)) = true := by kernel_rfl
theorem topLooksInsert_f16 : ((Rows.topLooksInsertRow.loops == (Tryz.f4.params.toList ++ Rows.topLooksInsertSpec.plain.varTypes Tryz.pinned.checked.prog).any (Tryz.pinned.checked.prog.loopsFrom ·))) = true := by kernel_rfl
theorem topLooksInsert_f17 : ((Rows.topLooksInsertRow.wideKeys == (Tryz.f4.params.toList ++ Rows.topLooksInsertSpec.plain.varTypes Tryz.pinned.checked.prog ++ Tryz.f4.resultTypes.toList).any (Tryz.pinned.checked.prog.wideKeysFrom ·))) = true := by kernel_rfl
theorem topLooksInsert_f18 : (Rows.topLooksInsertSpec.vars.all (Tryz.pinned.checked.prog.varReadable ·)) = true := by kernel_rfl
theorem topLooksInsert_f19 : (Tryz.f4.resultTypes.all (fun t => Tryz.pinned.checked.prog.readableRec t && decide (t < Tryz.pinned.checked.prog.types.size))) = true := by kernel_rfl
theorem topLooksInsert_f20 : ((Rows.topLooksInsertRow.ifacesOut == Tryz.f4.resultTypes.toList.any (Tryz.pinned.checked.prog.ifacesRec ·))) = true := by kernel_rfl
theorem topLooksInsert_f21 : ((Rows.topLooksInsertRow.loopsOut == Tryz.f4.resultTypes.toList.any (Tryz.pinned.checked.prog.loopsFrom ·))) = true := by kernel_rfl
theorem topLooksInsert_f22 : ((Rows.topLooksInsertRow.plainKeys == Tryz.pinned.checked.prog.plainKeys)) = true := by kernel_rfl
theorem topLooksInsert_f23 : (Rows.topLooksInsertRow.shortTexts.isNone) = true := by kernel_rfl
theorem topLooksInsert_f24 : (Tryz.pinned.checked.prog.stopsHeard) = true := by kernel_rfl
theorem topLooksInsert_f25 : (Tryz.pinned.checked.prog.mayEnter) = true := by kernel_rfl
theorem topLooksInsert_f26 : ((Rows.topLooksInsertRow.lifted == Tryz.pinned.checked.prog.liftsFinal)) = true := by kernel_rfl
theorem topLooksInsert_f27 : ((Tryz.pinned.checked.prog.make == some Rows.topLooksInsertRow.make)) = true := by kernel_rfl
theorem topLooksInsert_f28 : ((Rows.topLooksInsertRow.kinds == (if Rows.topLooksInsertRow.domain.isEmpty then [] else Tryz.f4.params.toList.map fun t => match Tryz.pinned.checked.prog.underlying t with | some (.int k) => some k | _ => none))) = true := by kernel_rfl
theorem topLooksInsert_f29 : ((Rows.topLooksInsertRow.pinned == Rows.topLooksInsertRow.pinnedBy)) = true := by kernel_rfl
theorem topLooksInsert_f30 : ((Rows.topLooksInsertRow.veiled == (Tryz.f4.params.toList ++ Rows.topLooksInsertSpec.plain.varTypes Tryz.pinned.checked.prog ++ Tryz.f4.resultTypes.toList).any (Tryz.pinned.checked.prog.veiledRec ·))) = true := by kernel_rfl
theorem topLooksInsert_f31 : (Rows.topLooksInsertRow.veiledFits Tryz.pinned.checked.prog Tryz.f4.params.toList (Tryz.f4.params.toList ++ Rows.topLooksInsertSpec.plain.varTypes Tryz.pinned.checked.prog ++ Tryz.f4.resultTypes.toList)) = true := by kernel_rfl
set_option maxRecDepth 100000 in
theorem topLooksInsert_facts : joinedFacts Tryz.pinned.checked.prog 4 Tryz.f4 Rows.topLooksInsertSpec Rows.topLooksInsertRow = true := by
  unfold joinedFacts
  exact (and_both (and_both (and_both (and_both (and_both (and_both (and_both (and_both (and_both (and_both (and_both (and_both (and_both (and_both (and_both (and_both (and_both (and_both (and_both (and_both (and_both (and_both (and_both (and_both (and_both (and_both (and_both (and_both (and_both (and_both (and_both topLooksInsert_f0 topLooksInsert_f1) topLooksInsert_f2) topLooksInsert_f3) topLooksInsert_f4) topLooksInsert_f5) topLooksInsert_f6) topLooksInsert_f7) topLooksInsert_f8) topLooksInsert_f9) topLooksInsert_f10) topLooksInsert_f11) topLooksInsert_f12) topLooksInsert_f13) topLooksInsert_f14) topLooksInsert_f15) topLooksInsert_f16) topLooksInsert_f17) topLooksInsert_f18) topLooksInsert_f19) topLooksInsert_f20) topLooksInsert_f21) topLooksInsert_f22) topLooksInsert_f23) topLooksInsert_f24) topLooksInsert_f25) topLooksInsert_f26) topLooksInsert_f27) topLooksInsert_f28) topLooksInsert_f29) topLooksInsert_f30) topLooksInsert_f31)
end Go.Proofs.YtbhkfemebionnaaGreatDoor

namespace Go.Proofs.YtbhkfemebionnaaGreatDoor.topLooksInsertP
open Go.ChangeShapes Go.ChangeMaps Go.WideShapes Go.ChangeAt Go.RowKit

set_option maxRecDepth 100000 in
theorem lifted (os : Os) (started : os.Started) (H : Type) (enc : TypeId × Value → H) :
    ReturnsInHanded {} Tryz.checked os 4 .any (fun w args => (Rows.topLooksInsertSpec.pre enc Tryz.prog Tryz.f4 [] false w args ∧ laidMetH Tryz.prog Rows.topLooksInsertRow.laid w) ∧ sizedMet enc Tryz.prog Tryz.f4 (OpenSpec.ofChange Rows.topLooksInsertSpec) false w args)
      (Rows.topLooksInsertSpec.post enc Tryz.prog Tryz.f4 false true false false) := by
  refine returnsInHanded_of_change_and (C := Tryz.checked) (X := fun w _ => laidMetH Tryz.prog Rows.topLooksInsertRow.laid w) (fun _ _ _ hh h => h.of_heap hh) own_ started (by kernel_rfl) Tryz.func4
    (ChangeSpec.witness_at (enc := enc) (C := Tryz.checked) (os := os) (X := fun w _ => laidMetH Tryz.prog Rows.topLooksInsertRow.laid w) false (laidWorld os) #[.agg #[.int .i64 0, .int .i64 0, .slice none 0 0], .string ⟨#[]⟩] 8 rfl (by kernel_rfl) (by kernel_rfl) (by kernel_rfl) (by kernel_rfl) (by kernel_rfl) (laid_met os _)) ?_
  intro W base args ds gs before hval0 hW _ hWt hL _
  have hval : ∀ (j : Nat) t v, Tryz.f4.params[j]? = some t → args[j]? = some v → Value.okWide Tryz.prog W .any base t v := hval0
  have hW' := hW
  obtain ⟨p, q, hA0, hV, rfl, hfz, hnd⟩ := hW
  have hA : DataW.TrodAll enc Tryz.prog W 0 (fun _ => true) true Tryz.f4.params.toList args.toList ds p := hA0
  rw [Tryz.params4] at hA hval hWt
  obtain ⟨v0, vs0, d0, ds0, p0, q0, hargs, rfl, rfl, h0, r0⟩ := trodAll_cons hA
  obtain ⟨v1, vs1, d1, ds1, p1, q1, rfl, rfl, rfl, h1, r1⟩ := trodAll_cons r0
  obtain ⟨rfl, rfl, rfl⟩ := trodAll_nil r1
  obtain rfl : args = #[v0, v1] := by cases args; simp_all
  obtain ⟨rfl, rfl⟩ := trodVars_none hV
  have lt0 : ∀ x ∈ p0, x.block < W.heap.size := by obtain ⟨m, hm⟩ := h0; exact DataW.trod_lt m _ _ _ hm
  obtain ⟨cs0, fuel0, y0, rfl, hf0⟩ := agg_open Tryz.underlying24 (hval 0 24 v0 rfl rfl) h0
  obtain ⟨g0, rfl, hg0⟩ := list_cells hf0
  obtain ⟨x1, rfl, rfl, rfl, w1⟩ := open_string Tryz.underlying9 (hval 1 9 v1 rfl rfl) h1
  clear hA0 hval0 hWt
  simp only [List.append_nil] at hW'
  refine (top_looks_insert W g0 hg0 x1 w1 (laid_of hL)).mono fun e W' ⟨he, bel⟩ => ?_
  subst he
  exact ⟨_, rfl, _, _, _, [], _, [], hW', trodAll_mk1 (shut_bool Tryz.underlying4 _), (trodAll_cons_mk (Below.trod laidOut (by kernel_rfl) (of_decide_eq_true (by kernel_rfl)) h0 bel lt0) (trodAll_cons_mk (shut_string Tryz.underlying9 w1) trodAll_mk0)), rfl, bel.frame _, fun h => by cases h⟩

theorem over : Rows.topLooksInsertRow.holds Tryz.pinned (OpenSpec.ofChange Rows.topLooksInsertSpec) :=
  OpenClaim.holds_of_wide 4 Tryz.f4 rfl rfl rfl rfl rfl rfl rfl ⟨rfl, rfl, rfl, rfl, rfl⟩ rfl rfl rfl rfl rfl (by kernel_rfl) Tryz.func4 topLooksInsert_facts
    (of_decide_eq_true (by kernel_rfl)) (by unfold Func.isWrapper; rw [if_neg (of_decide_eq_false (by kernel_rfl))]; exact ⟨rfl, rfl⟩)
    (fun os started H enc _ => lifted os started H enc)

theorem noStandIn : ∀ t ∈ Tryz.f4.params.toList, Tryz.prog.wantsStandIn t = false := by
  rw [Tryz.params4]
  intro t ht
  simp only [List.mem_cons, List.not_mem_nil, or_false] at ht
  rcases ht with rfl | rfl <;> kernel_rfl

theorem limb1 : OpenClaim.wfByText (OpenSpec.ofChange Rows.topLooksInsertSpec) Rows.topLooksInsertRow = true := by kernel_rfl
theorem limb2 : Tryz.pinned.checked.prog.mainIs = some ((true, "a62d3067bbce1daa59e2469251933622e6a9275891be88d865cbd07251931137").1, (true, "a62d3067bbce1daa59e2469251933622e6a9275891be88d865cbd07251931137").2.toList) := by kernel_rfl
theorem limb3 : true = Tryz.pinned.checked.prog.looks [] := by kernel_rfl
theorem limb4 : false = Rows.topLooksInsertRow.goesBy Tryz.pinned.checked.prog := by kernel_rfl
theorem limb5 : Tryz.prog.funcNamed "luminaire/luminairetop.TopLooksInsert" = some 4 := by kernel_rfl

theorem proved : Rows.TopLooksInsertCardSaid :=
  Claim7.holds_tied_plain_at .later [] [.data, .data, .data, .sentinel, .sentinel] true (true, "a62d3067bbce1daa59e2469251933622e6a9275891be88d865cbd07251931137") true
    over (fun _ h => by cases h) limb1 (fun _ h => by cases h) topLooksInsert_row_tie rfl ⟨rfl, rfl⟩ limb2 rfl
    (fun f fn hf hfn => by
      obtain rfl : f = 4 := Option.some.inj (limb5.symm.trans hf) |>.symm
      obtain rfl : fn = Tryz.f4 := (Option.some.inj (Tryz.func4.symm.trans hfn)).symm
      exact ⟨limb3, fun j t ht => noStandIn t (Array.mem_toList_iff.2 (Array.mem_of_getElem? ht))⟩)
    limb4
#print axioms proved
end Go.Proofs.YtbhkfemebionnaaGreatDoor.topLooksInsertP
