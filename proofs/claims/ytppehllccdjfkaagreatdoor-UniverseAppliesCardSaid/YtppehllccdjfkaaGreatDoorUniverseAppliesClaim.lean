/- UniverseApplies: for every input the law returns true, and its arguments read behind the call as they read before. The package variables that the row lists hold what the program's text lays. -/
import Derived.Test.YtppehllccdjfkaaGreatDoorGUniD
import Derived.Test.YtppehllccdjfkaaGreatDoorGUniE
import Derived.Test.YtppehllccdjfkaaGreatDoorGUniF
import Derived.Test.YtppehllccdjfkaaGreatDoorGLaw
import Derived.Test.YtppehllccdjfkaaGreatDoorFUniverseApplies
import Derived.Test.YtppehllccdjfkaaGreatDoorCards
import Derived.Test.YtppehllccdjfkaaGreatDoorTie
import Derived.SevenTiedAt
import Derived.SizedLaws
namespace Go.Proofs.YtppehllccdjfkaaGreatDoor
open Go.RowKit

theorem ap_len {a : List Fm} {L : List Cg} : (appV a L).length ≤ 8 := by
  unfold appV
  by_cases h : appE a L ≠ 0
  · rw [if_pos h]; simp
  · rw [if_neg h, apL_len]
    exact (frs_all (app_ok (Classical.not_not.1 h)).1).1
set_option maxRecDepth 100000 in
set_option maxHeartbeats 16000000 in
theorem uapplies_walk (w : World) (A : Option Addr) (n c : Nat) (a : List Fm) (A' : Option Addr) (n' c' : Nat) (l : List Cg) (ha : shFm.In w A n a) (hl : shCg.In w A' n' l) (hn : n ≤ 9223372036854775806) (hn' : n' ≤ 9223372036854775806) (hsa : ∀ x ∈ a, x.sl.size ≤ 9223372036854775807) (ht : Tab w) (hr : Rng w) :
    Calls Tryz.prog 5 #[.slice A n c, .slice A' n' c'] w fun e w' => e = .returned (.bool true) ∧ Below w.heap.size w w' := by
  obtain ⟨rfl, _⟩ := id hl
  have hB := Below.refl w.heap.size w
  have HAw := Lib.hid (fun w ht hr => uawake_any w ht hr)
  have HFa := Lib.hid (fun w h => rfewfm_any A n c a w h hn)
  have HAp := Lib.hid (fun w h1 h2 => uApply_any A n c A' l.length c' a l w h1 h2 hn hn' hsa)
  have HRp := Lib.hid (fun A2 c2 w h1 h2 => rApply_any A n c A2 l.length c2 a l w h1 h2 hn hn' hsa)
  have HLc := Lib.hid (fun (h : l.length ≤ 5000) w h1 => lchanges_any A' l.length c' l w h1 (by omega))
  have HRs := Lib.hid (fun A2 A3 c2 c3 w h1 h2 => rsame_any A2 A3 (appV a l).length (appV a l).length c2 c3 (appV a l) (appV a l) w h1 h2 (by have := ap_len (a := a) (L := l); omega) (by have := ap_len (a := a) (L := l); omega))
  rw [decide_eq_true (rfl : appV a l = appV a l)] at HRs
  have HA := Lib.hid ha
  have HL := Lib.hid hl
  have HT := Lib.hid ht
  have HRg := Lib.hid hr
  generalize appV a l = V at *
  generalize appE a l = E at *
  clear ha hl hn hsa ht hr
  cases hfa : fewFm a with
  | false =>
    rw [hfa] at HFa
    clear hn'
    go_enter Tryz.func5, Tryz.ntmps5
    go_wp2_with fail
    refine (HFa.out _ (HA.out.below hB)).mono ?_
    rintro e wk ⟨rfl, hb⟩
    replace hB := hB.trans (hb.mono hB.size)
    clear hb
    go_wp2_with fail
    refine (HAw.out _ (HT.out.below hB) (HRg.out.below hB)).mono ?_
    rintro e wk ⟨rfl, hb⟩
    replace hB := hB.trans (hb.mono hB.size)
    clear hb
    go_wp2_with fail
    go_ret
    exact ⟨rfl, hB⟩
  | true =>
    rw [hfa] at HFa
    by_cases h5 : 5000 < l.length
    · have g5 : (5000 : Int) < (l.length : Int) := by omega
      clear hn' h5
      go_enter Tryz.func5, Tryz.ntmps5
      go_wp2_with fail
      refine (HFa.out _ (HA.out.below hB)).mono ?_
      rintro e wk ⟨rfl, hb⟩
      replace hB := hB.trans (hb.mono hB.size)
      clear hb
      go_wp2_with fail
      refine (HAw.out _ (HT.out.below hB) (HRg.out.below hB)).mono ?_
      rintro e wk ⟨rfl, hb⟩
      replace hB := hB.trans (hb.mono hB.size)
      clear hb
      go_wp2_with fail
      go_ret
      exact ⟨rfl, hB⟩
    · have g5 : ¬ (5000 : Int) < (l.length : Int) := by omega
      replace HLc := Lib.hid (HLc.out (by omega))
      clear hfa hn' h5
      go_enter Tryz.func5, Tryz.ntmps5
      go_wp2_with fail
      refine (HFa.out _ (HA.out.below hB)).mono ?_
      rintro e wk ⟨rfl, hb⟩
      replace hB := hB.trans (hb.mono hB.size)
      clear hb
      go_wp2_with fail
      refine (HAp.out _ (HA.out.below hB) (HL.out.below hB)).mono ?_
      rintro e w5 ⟨r, rfl, A2, c2, rfl, ho, hb⟩
      have HI2 := Lib.hid (Sh.In.of_own ho rfl)
      replace hB := hB.trans (hb.mono hB.size)
      clear ho hb
      go_wp2_with fail
      refine (HLc.out _ (HL.out.below hB)).mono ?_
      rintro e w6 ⟨r, rfl, A3, c3, rfl, ho, hb⟩
      have HI3 := Lib.hid (Sh.In.of_own ho rfl)
      have HI4 := Lib.hid (HI2.out.below hb)
      replace hB := hB.trans (hb.mono hB.size)
      clear ho hb
      go_wp2_with fail
      refine (HRp.out _ _ _ (HA.out.below hB) HI3.out).mono ?_
      rintro e w7 ⟨r, rfl, A4, c4, rfl, ho, hb⟩
      have HI5 := Lib.hid (Sh.In.of_own ho rfl)
      have HI6 := Lib.hid (HI4.out.below hb)
      replace hB := hB.trans (hb.mono hB.size)
      clear ho hb
      go_wp2_with fail
      refine (HAw.out _ (HT.out.below hB) (HRg.out.below hB)).mono ?_
      rintro e w8 ⟨rfl, hb⟩
      have HI7 := Lib.hid (HI5.out.below hb)
      have HI8 := Lib.hid (HI6.out.below hb)
      replace hB := hB.trans (hb.mono hB.size)
      clear hb
      go_wp2_with fail
      refine (HRs.out _ _ _ _ _ HI8.out HI7.out).mono ?_
      rintro e w9 ⟨rfl, hb⟩
      replace hB := hB.trans (hb.mono hB.size)
      clear hb
      go_wp2_with fail
      go_ret
      exact ⟨ret_b (by simp), hB⟩
theorem universe_applies (w : World) (A : Option Addr) (n c : Nat) (a : List Fm) (ha : shFm.In w A n a) (hga : ∀ g ∈ a, g.good) (hn : n ≤ maxLen) (hby : n * 24 ≤ reachBytes) (A' : Option Addr) (n' c' : Nat) (l : List Cg) (hl : shCg.In w A' n' l) (hgl : ∀ g ∈ l, g.good) (hn' : n' ≤ maxLen) (hby' : n' * 24 ≤ reachBytes) (hL : Laid w) :
    Calls Tryz.prog 5 #[.slice A n c, .slice A' n' c'] w fun e w' => e = .returned (.bool true) ∧ Below w.heap.size w w' :=
  uapplies_walk w A n c a A' n' c' l ha hl (by unfold reachBytes at hby; omega) (by unfold reachBytes at hby'; omega) (fun x hx => by have h := hga x hx; unfold Fm.good maxLen at h; omega) hL.1 hL.2
end Go.Proofs.YtppehllccdjfkaaGreatDoor

namespace Go.Proofs.YtppehllccdjfkaaGreatDoor.universeAppliesP
open Go.ChangeShapes Go.ChangeMaps Go.WideShapes Go.ChangeAt Go.RowKit

set_option maxRecDepth 100000 in
theorem lifted (os : Os) (started : os.Started) (H : Type) (enc : TypeId × Value → H) :
    ReturnsInHanded {} Tryz.checked os 5 .any (fun w args => (Rows.universeAppliesSpec.pre enc Tryz.prog Tryz.f5 [] false w args ∧ laidMetH Tryz.prog Rows.universeAppliesRow.laid w) ∧ sizedMet enc Tryz.prog Tryz.f5 (OpenSpec.ofChange Rows.universeAppliesSpec) false w args)
      (Rows.universeAppliesSpec.post enc Tryz.prog Tryz.f5 false true false false) := by
  refine returnsInHanded_of_change_and (C := Tryz.checked) (X := fun w _ => laidMetH Tryz.prog Rows.universeAppliesRow.laid w) (fun _ _ _ hh h => h.of_heap hh) own_ started (by kernel_rfl) Tryz.func5
    (ChangeSpec.witness_at (enc := enc) (C := Tryz.checked) (os := os) (X := fun w _ => laidMetH Tryz.prog Rows.universeAppliesRow.laid w) false (laidWorld os) #[.slice none 0 0, .slice none 0 0] 8 rfl (by kernel_rfl) (by kernel_rfl) (by kernel_rfl) (by kernel_rfl) (by kernel_rfl) (laid_met os _)) ?_
  intro W base args ds gs before hval0 hW _ hWt hL _
  have hval : ∀ (j : Nat) t v, Tryz.f5.params[j]? = some t → args[j]? = some v → Value.okWide Tryz.prog W .any base t v := hval0
  have hW' := hW
  obtain ⟨p, q, hA0, hV, rfl, hfz, hnd⟩ := hW
  have hA : DataW.TrodAll enc Tryz.prog W 0 (fun _ => true) true Tryz.f5.params.toList args.toList ds p := hA0
  rw [Tryz.params5] at hA hval hWt
  obtain ⟨v0, vs0, d0, ds0, p0, q0, hargs, rfl, rfl, h0, r0⟩ := trodAll_cons hA
  obtain ⟨v1, vs1, d1, ds1, p1, q1, rfl, rfl, rfl, h1, r1⟩ := trodAll_cons r0
  obtain ⟨rfl, rfl, rfl⟩ := trodAll_nil r1
  obtain rfl : args = #[v0, v1] := by cases args; simp_all
  obtain ⟨rfl, rfl⟩ := trodVars_none hV
  have lt0 : ∀ x ∈ p0, x.block < W.heap.size := by obtain ⟨m, hm⟩ := h0; exact DataW.trod_lt m _ _ _ hm
  obtain ⟨A0, n0, c0, rfl⟩ := okWide_slice Tryz.underlying33 (hval 0 33 v0 rfl rfl)
  have k0 := h0
  obtain ⟨fuel0, hf0⟩ := k0
  obtain ⟨l0, hl0, hg0, hn0, hx0⟩ := open_rows shFm Tryz.underlying33 (by kernel_rfl : Tryz.prog.cellsOf 83 = shFm.z) (by decide) ⟨0, ⟨#[]⟩⟩ _ (fun _ _ _ h => frame_cells h) hf0
  have hby0 : n0 * 24 ≤ reachBytes := by
    rcases hx0 with h | ⟨el, sp, e1, e2⟩
    · rw [h]; decide
    · have hs : (el.length + sp.length) * Tryz.prog.bytesOf 83 ≤ reachBytes := sized_slice hWt (j := 0) (t := 33) (e := 83) (elems := el) (spare := sp) rfl (congrArg some e1) Tryz.underlying33
      rw [show Tryz.prog.bytesOf 83 = 24 by kernel_rfl] at hs
      rw [e2]
      exact Nat.le_trans (Nat.mul_le_mul_right _ (Nat.le_add_right _ _)) hs
  have lt1 : ∀ x ∈ p1, x.block < W.heap.size := by obtain ⟨m, hm⟩ := h1; exact DataW.trod_lt m _ _ _ hm
  obtain ⟨A1, n1, c1, rfl⟩ := okWide_slice Tryz.underlying52 (hval 1 52 v1 rfl rfl)
  have k1 := h1
  obtain ⟨fuel1, hf1⟩ := k1
  obtain ⟨l1, hl1, hg1, hn1, hx1⟩ := open_rows shCg Tryz.underlying52 (by kernel_rfl : Tryz.prog.cellsOf 71 = shCg.z) (by decide) ⟨0, 0, 0⟩ _ (fun _ _ _ h => change_cells h) hf1
  have hby1 : n1 * 24 ≤ reachBytes := by
    rcases hx1 with h | ⟨el, sp, e1, e2⟩
    · rw [h]; decide
    · have hs : (el.length + sp.length) * Tryz.prog.bytesOf 71 ≤ reachBytes := sized_slice hWt (j := 1) (t := 52) (e := 71) (elems := el) (spare := sp) rfl (congrArg some e1) Tryz.underlying52
      rw [show Tryz.prog.bytesOf 71 = 24 by kernel_rfl] at hs
      rw [e2]
      exact Nat.le_trans (Nat.mul_le_mul_right _ (Nat.le_add_right _ _)) hs
  clear hA0 hval0 hWt
  simp only [List.append_nil] at hW'
  refine (universe_applies W A0 n0 c0 l0 hl0 hg0 hn0 hby0 A1 n1 c1 l1 hl1 hg1 hn1 hby1 (laid_of hL)).mono fun e W' ⟨he, bel⟩ => ?_
  subst he
  exact ⟨_, rfl, _, _, _, [], _, [], hW', trodAll_mk1 (shut_bool Tryz.underlying4 _), (trodAll_cons_mk (Below.trod laidOut (by kernel_rfl) (of_decide_eq_true (by kernel_rfl)) h0 bel lt0) (trodAll_cons_mk (Below.trod laidOut (by kernel_rfl) (of_decide_eq_true (by kernel_rfl)) h1 bel lt1) trodAll_mk0)), rfl, bel.frame _, fun h => by cases h⟩

theorem over : Rows.universeAppliesRow.holds Tryz.pinned (OpenSpec.ofChange Rows.universeAppliesSpec) :=
  OpenClaim.holds_of_wide 5 Tryz.f5 rfl rfl rfl rfl rfl rfl rfl ⟨rfl, rfl, rfl, rfl, rfl⟩ rfl rfl rfl rfl rfl (by kernel_rfl) Tryz.func5 universeApplies_facts
    (of_decide_eq_true (by kernel_rfl)) (by unfold Func.isWrapper; rw [if_neg (of_decide_eq_false (by kernel_rfl))]; exact ⟨rfl, rfl⟩)
    (fun os started H enc _ => lifted os started H enc)

theorem noStandIn : ∀ t ∈ Tryz.f5.params.toList, Tryz.prog.wantsStandIn t = false := by
  rw [Tryz.params5]
  intro t ht
  simp only [List.mem_cons, List.not_mem_nil, or_false] at ht
  rcases ht with rfl | rfl <;> kernel_rfl

theorem limb1 : OpenClaim.wfByText (OpenSpec.ofChange Rows.universeAppliesSpec) Rows.universeAppliesRow = true := by kernel_rfl
theorem limb2 : Tryz.pinned.checked.prog.mainIs = some ((true, "6b5c47ba69277f07a6177496ca739adee0cd51067832db439221407075b64ac1").1, (true, "6b5c47ba69277f07a6177496ca739adee0cd51067832db439221407075b64ac1").2.toList) := by kernel_rfl
theorem limb3 : true = Tryz.pinned.checked.prog.looks [] := by kernel_rfl
theorem limb4 : false = Rows.universeAppliesRow.goesBy Tryz.pinned.checked.prog := by kernel_rfl
theorem limb5 : Tryz.prog.funcNamed "luminaire/luminairelaw13.UniverseApplies" = some 5 := by kernel_rfl

theorem proved : Rows.UniverseAppliesCardSaid :=
  Claim7.holds_tied_plain_at .later [] [.data, .data, .data, .data, .sentinel, .sentinel, .pinned] true (true, "6b5c47ba69277f07a6177496ca739adee0cd51067832db439221407075b64ac1") true
    over (fun _ h => by cases h) limb1 (fun _ h => by cases h) universeApplies_row_tie rfl ⟨rfl, rfl⟩ limb2 rfl
    (fun f fn hf hfn => by
      obtain rfl : f = 5 := Option.some.inj (limb5.symm.trans hf) |>.symm
      obtain rfl : fn = Tryz.f5 := (Option.some.inj (Tryz.func5.symm.trans hfn)).symm
      exact ⟨limb3, fun j t ht => noStandIn t (Array.mem_toList_iff.2 (Array.mem_of_getElem? ht))⟩)
    limb4
#print axioms proved
end Go.Proofs.YtppehllccdjfkaaGreatDoor.universeAppliesP
