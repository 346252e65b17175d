/- UniverseChecks: for every input the law returns true, and its arguments read behind the call as they read before. The package variables that the row lists hold what the program's text lays. -/
import Derived.Test.YtppehllccdjfkaaGreatDoorGUniI
import Derived.Test.YtppehllccdjfkaaGreatDoorGLaw
import Derived.Test.YtppehllccdjfkaaGreatDoorFUniverseChecks
import Derived.Test.YtppehllccdjfkaaGreatDoorCards
import Derived.Test.YtppehllccdjfkaaGreatDoorTie
import Derived.SevenTiedAt
import Derived.SizedLaws
namespace Go.Proofs.YtppehllccdjfkaaGreatDoor.universeChecksP
open Go.ChangeShapes Go.ChangeMaps Go.WideShapes Go.ChangeAt Go.RowKit

set_option maxRecDepth 100000 in
theorem lifted (os : Os) (started : os.Started) (H : Type) (enc : TypeId × Value → H) :
    ReturnsInHanded {} Tryz.checked os 4 .any (fun w args => (Rows.universeChecksSpec.pre enc Tryz.prog Tryz.f4 [] false w args ∧ laidMetH Tryz.prog Rows.universeChecksRow.laid w) ∧ sizedMet enc Tryz.prog Tryz.f4 (OpenSpec.ofChange Rows.universeChecksSpec) false w args)
      (Rows.universeChecksSpec.post enc Tryz.prog Tryz.f4 false true false false) := by
  refine returnsInHanded_of_change_and (C := Tryz.checked) (X := fun w _ => laidMetH Tryz.prog Rows.universeChecksRow.laid w) (fun _ _ _ hh h => h.of_heap hh) own_ started (by kernel_rfl) Tryz.func4
    (ChangeSpec.witness_at (enc := enc) (C := Tryz.checked) (os := os) (X := fun w _ => laidMetH Tryz.prog Rows.universeChecksRow.laid w) false (laidWorld os) #[.agg #[.slice none 0 0, .slice none 0 0, .slice none 0 0], .slice none 0 0, .agg #[.int .i64 0, .int .i64 0]] 8 rfl (by kernel_rfl) (by kernel_rfl) (by kernel_rfl) (by kernel_rfl) (by kernel_rfl) (laid_met os _)) ?_
  intro W base args ds gs before hval0 hW _ hWt hL _
  have hval : ∀ (j : Nat) t v, Tryz.f4.params[j]? = some t → args[j]? = some v → Value.okWide Tryz.prog W .any base t v := hval0
  have hW' := hW
  obtain ⟨p, q, hA0, hV, rfl, hfz, hnd⟩ := hW
  have hA : DataW.TrodAll enc Tryz.prog W 0 (fun _ => true) true Tryz.f4.params.toList args.toList ds p := hA0
  rw [Tryz.params4] at hA hval hWt
  obtain ⟨v0, vs0, d0, ds0, p0, q0, hargs, rfl, rfl, h0, r0⟩ := trodAll_cons hA
  obtain ⟨v1, vs1, d1, ds1, p1, q1, rfl, rfl, rfl, h1, r1⟩ := trodAll_cons r0
  obtain ⟨v2, vs2, d2, ds2, p2, q2, rfl, rfl, rfl, h2, r2⟩ := trodAll_cons r1
  obtain ⟨rfl, rfl, rfl⟩ := trodAll_nil r2
  obtain rfl : args = #[v0, v1, v2] := by cases args; simp_all
  obtain ⟨rfl, rfl⟩ := trodVars_none hV
  have lt0 : ∀ x ∈ p0, x.block < W.heap.size := by obtain ⟨m, hm⟩ := h0; exact DataW.trod_lt m _ _ _ hm
  obtain ⟨cs0, fuel0, y0, rfl, hf0⟩ := agg_open Tryz.underlying26 (hval 0 26 v0 rfl rfl) h0
  obtain ⟨g0, rfl, hg0⟩ := rig_cells hf0
  have lt1 : ∀ x ∈ p1, x.block < W.heap.size := by obtain ⟨m, hm⟩ := h1; exact DataW.trod_lt m _ _ _ hm
  obtain ⟨A1, n1, c1, rfl⟩ := okWide_slice Tryz.underlying33 (hval 1 33 v1 rfl rfl)
  have k1 := h1
  obtain ⟨fuel1, hf1⟩ := k1
  obtain ⟨l1, hl1, hg1, hn1, hx1⟩ := open_rows shFm Tryz.underlying33 (by kernel_rfl : Tryz.prog.cellsOf 83 = shFm.z) (by decide) ⟨0, ⟨#[]⟩⟩ _ (fun _ _ _ h => frame_cells h) hf1
  have hby1 : n1 * 24 ≤ reachBytes := by
    rcases hx1 with h | ⟨el, sp, e1, e2⟩
    · rw [h]; decide
    · have hs : (el.length + sp.length) * Tryz.prog.bytesOf 83 ≤ reachBytes := sized_slice hWt (j := 1) (t := 33) (e := 83) (elems := el) (spare := sp) rfl (congrArg some e1) Tryz.underlying33
      rw [show Tryz.prog.bytesOf 83 = 24 by kernel_rfl] at hs
      rw [e2]
      exact Nat.le_trans (Nat.mul_le_mul_right _ (Nat.le_add_right _ _)) hs
  have lt2 : ∀ x ∈ p2, x.block < W.heap.size := by obtain ⟨m, hm⟩ := h2; exact DataW.trod_lt m _ _ _ hm
  obtain ⟨cs2, fuel2, y2, rfl, hf2⟩ := arr_open Tryz.underlying41 (hval 2 41 v2 rfl rfl) h2
  obtain ⟨g2, rfl, hg2⟩ := two_ints hf2
  clear hA0 hval0 hWt
  simp only [List.append_nil] at hW'
  refine (universe_checks W g0 hg0 A1 n1 c1 l1 hl1 hg1 hn1 hby1 g2 hg2 (laid_of hL)).mono fun e W' ⟨he, bel⟩ => ?_
  subst he
  exact ⟨_, rfl, _, _, _, [], _, [], hW', trodAll_mk1 (shut_bool Tryz.underlying4 _), (trodAll_cons_mk (Below.trod laidOut (by kernel_rfl) (of_decide_eq_true (by kernel_rfl)) h0 bel lt0) (trodAll_cons_mk (Below.trod laidOut (by kernel_rfl) (of_decide_eq_true (by kernel_rfl)) h1 bel lt1) (trodAll_cons_mk (Below.trod laidOut (by kernel_rfl) (of_decide_eq_true (by kernel_rfl)) h2 bel lt2) trodAll_mk0))), rfl, bel.frame _, fun h => by cases h⟩

theorem over : Rows.universeChecksRow.holds Tryz.pinned (OpenSpec.ofChange Rows.universeChecksSpec) :=
  OpenClaim.holds_of_wide 4 Tryz.f4 rfl rfl rfl rfl rfl rfl rfl ⟨rfl, rfl, rfl, rfl, rfl⟩ rfl rfl rfl rfl rfl (by kernel_rfl) Tryz.func4 universeChecks_facts
    (of_decide_eq_true (by kernel_rfl)) (by unfold Func.isWrapper; rw [if_neg (of_decide_eq_false (by kernel_rfl))]; exact ⟨rfl, rfl⟩)
    (fun os started H enc _ => lifted os started H enc)

theorem noStandIn : ∀ t ∈ Tryz.f4.params.toList, Tryz.prog.wantsStandIn t = false := by
  rw [Tryz.params4]
  intro t ht
  simp only [List.mem_cons, List.not_mem_nil, or_false] at ht
  rcases ht with rfl | rfl | rfl <;> kernel_rfl

theorem limb1 : OpenClaim.wfByText (OpenSpec.ofChange Rows.universeChecksSpec) Rows.universeChecksRow = true := by kernel_rfl
theorem limb2 : Tryz.pinned.checked.prog.mainIs = some ((true, "6b5c47ba69277f07a6177496ca739adee0cd51067832db439221407075b64ac1").1, (true, "6b5c47ba69277f07a6177496ca739adee0cd51067832db439221407075b64ac1").2.toList) := by kernel_rfl
theorem limb3 : true = Tryz.pinned.checked.prog.looks [] := by kernel_rfl
theorem limb4 : false = Rows.universeChecksRow.goesBy Tryz.pinned.checked.prog := by kernel_rfl
theorem limb5 : Tryz.prog.funcNamed "luminaire/luminairelaw13.UniverseChecks" = some 4 := by kernel_rfl

theorem proved : Rows.UniverseChecksCardSaid :=
  Claim7.holds_tied_plain_at .later [] [.data, .data, .data, .data, .sentinel, .sentinel, .pinned] true (true, "6b5c47ba69277f07a6177496ca739adee0cd51067832db439221407075b64ac1") true
    over (fun _ h => by cases h) limb1 (fun _ h => by cases h) universeChecks_row_tie rfl ⟨rfl, rfl⟩ limb2 rfl
    (fun f fn hf hfn => by
      obtain rfl : f = 4 := Option.some.inj (limb5.symm.trans hf) |>.symm
      obtain rfl : fn = Tryz.f4 := (Option.some.inj (Tryz.func4.symm.trans hfn)).symm
      exact ⟨limb3, fun j t ht => noStandIn t (Array.mem_toList_iff.2 (Array.mem_of_getElem? ht))⟩)
    limb4
#print axioms proved
end Go.Proofs.YtppehllccdjfkaaGreatDoor.universeChecksP
