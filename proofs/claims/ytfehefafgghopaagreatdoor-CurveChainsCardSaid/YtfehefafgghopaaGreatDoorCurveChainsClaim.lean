/- CurveChains: for every input the law returns true, and its arguments read behind the call as they read before. The package variables that the row lists hold what the program's text lays. -/
import Derived.Test.YtfehefafgghopaaGreatDoorGNest
import Derived.Test.YtfehefafgghopaaGreatDoorGRat
import Derived.Test.YtfehefafgghopaaGreatDoorGLaw
import Derived.Test.YtfehefafgghopaaGreatDoorFCurveChains
import Derived.Test.YtfehefafgghopaaGreatDoorCards
import Derived.Test.YtfehefafgghopaaGreatDoorTie
import Derived.SevenTiedAt
import Derived.SizedLaws
namespace Go.Proofs.YtfehefafgghopaaGreatDoor
open Go.RowKit

set_option maxRecDepth 100000 in
set_option maxHeartbeats 8000000 in
theorem cchains_walk (w : World) (A : Option Addr) (n c : Nat) (H : List Hd) (L : List (List PT)) (s : ByteArray) (hl : InN w A n H L) (hm : ∀ h ∈ H, h.n ≤ 9223372036854775807) (hn : n ≤ 9223372036854775807) (hs : s.size ≤ 9223372036854775807) (ht : Tab w) :
    Calls Tryz.prog 8 #[.slice A n c, .string s] w fun e w' => e = .returned (.bool true) ∧ Below w.heap.size w w' := by
  obtain ⟨rfl, _⟩ := id hl.1
  have HAw := Lib.hid (fun w ht => cawake_any w ht)
  have HF := Lib.hid (fun w hl => r9fewall_any A H.length c H L w hl hn)
  have HF2 := Lib.hid (fun w => sfew_any s w hs)
  have hB := Below.refl w.heap.size w
  have HT := Lib.hid ht
  have HL := Lib.hid hl
  by_cases hfs : s.size ≤ 120
  · have HP := Lib.hid (fun w hl ht => cthrough_any A H.length c H L s w hl hm hn hfs ht)
    have HP2 := Lib.hid (fun w hl => r9through_any A H.length c H L s w hl hm hn hfs)
    rw [decide_eq_true hfs] at HF2
    clear hl hm ht
    generalize thruT L s = V at *
    generalize errT L s = E at *
    generalize fewAll L = f at *
    cases f with
    | false =>
      go_enter Tryz.func8, Tryz.ntmps8
      go_wp2_with fail
      refine (HF.out _ (HL.out.below hB)).mono ?_
      rintro e wk ⟨rfl, hb⟩
      replace hB := hB.trans (hb.mono hB.size)
      clear hb
      go_wp2_with fail
      refine (HAw.out _ (HT.out.below hB)).mono ?_
      rintro e wk ⟨rfl, hb⟩
      replace hB := hB.trans (hb.mono hB.size)
      go_wp2_with fail
      go_ret
      exact ⟨rfl, hB⟩
    | true =>
      by_cases h1 : 5 < H.length ∧ H.length ≤ 16
      · obtain ⟨h1, h2⟩ := h1
        have g1 : (5 : Int) < (H.length : Int) := by omega
        have g2 : (H.length : Int) ≤ 16 := by omega
        go_enter Tryz.func8, Tryz.ntmps8
        go_wp2_with fail
        refine (HF.out _ (HL.out.below hB)).mono ?_
        rintro e wk ⟨rfl, hb⟩
        replace hB := hB.trans (hb.mono hB.size)
        clear hb
        go_wp2_with fail
        refine (HAw.out _ (HT.out.below hB)).mono ?_
        rintro e wk ⟨rfl, hb⟩
        replace hB := hB.trans (hb.mono hB.size)
        go_wp2_with fail
        go_ret
        exact ⟨rfl, hB⟩
      · by_cases h5 : 5 < H.length
        · have h6 : ¬ H.length ≤ 16 := fun h => h1 ⟨h5, h⟩
          have g1 : (5 : Int) < (H.length : Int) := by omega
          have g2 : ¬ (H.length : Int) ≤ 16 := by omega
          clear h1
          go_enter Tryz.func8, Tryz.ntmps8
          go_wp2_with fail
          refine (HF.out _ (HL.out.below hB)).mono ?_
          rintro e wk ⟨rfl, hb⟩
          replace hB := hB.trans (hb.mono hB.size)
          clear hb
          go_wp2_with fail
          refine (HF2.out _).mono ?_
          rintro e wk ⟨rfl, hb⟩
          replace hB := hB.trans (hb.mono hB.size)
          clear hb
          go_wp2_with fail
          refine (HP.out _ (HL.out.below hB) (HT.out.below hB)).mono ?_
          rintro e wk ⟨rfl, hb⟩
          replace hB := hB.trans (hb.mono hB.size)
          clear hb
          go_wp2_with fail
          refine (HP2.out _ (HL.out.below hB)).mono ?_
          rintro e wk ⟨rfl, hb⟩
          replace hB := hB.trans (hb.mono hB.size)
          clear hb
          go_wp2_with fail
          refine (HAw.out _ (HT.out.below hB)).mono ?_
          rintro e wk ⟨rfl, hb⟩
          replace hB := hB.trans (hb.mono hB.size)
          clear hb
          go_wp2_with fail
          go_ret
          exact ⟨rfl, hB⟩
        · have g1 : ¬ (5 : Int) < (H.length : Int) := by omega
          clear h1
          go_enter Tryz.func8, Tryz.ntmps8
          go_wp2_with fail
          refine (HF.out _ (HL.out.below hB)).mono ?_
          rintro e wk ⟨rfl, hb⟩
          replace hB := hB.trans (hb.mono hB.size)
          clear hb
          go_wp2_with fail
          refine (HF2.out _).mono ?_
          rintro e wk ⟨rfl, hb⟩
          replace hB := hB.trans (hb.mono hB.size)
          clear hb
          go_wp2_with fail
          refine (HP.out _ (HL.out.below hB) (HT.out.below hB)).mono ?_
          rintro e wk ⟨rfl, hb⟩
          replace hB := hB.trans (hb.mono hB.size)
          clear hb
          go_wp2_with fail
          refine (HP2.out _ (HL.out.below hB)).mono ?_
          rintro e wk ⟨rfl, hb⟩
          replace hB := hB.trans (hb.mono hB.size)
          clear hb
          go_wp2_with fail
          refine (HAw.out _ (HT.out.below hB)).mono ?_
          rintro e wk ⟨rfl, hb⟩
          replace hB := hB.trans (hb.mono hB.size)
          clear hb
          go_wp2_with fail
          go_ret
          exact ⟨rfl, hB⟩
  · rw [decide_eq_false hfs] at HF2
    clear hl hm ht
    generalize fewAll L = f at *
    cases f with
    | false =>
      go_enter Tryz.func8, Tryz.ntmps8
      go_wp2_with fail
      refine (HF.out _ (HL.out.below hB)).mono ?_
      rintro e wk ⟨rfl, hb⟩
      replace hB := hB.trans (hb.mono hB.size)
      clear hb
      go_wp2_with fail
      refine (HAw.out _ (HT.out.below hB)).mono ?_
      rintro e wk ⟨rfl, hb⟩
      replace hB := hB.trans (hb.mono hB.size)
      clear hb
      go_wp2_with fail
      go_ret
      exact ⟨rfl, hB⟩
    | true =>
      by_cases h5 : 5 < H.length
      · have g1 : (5 : Int) < (H.length : Int) := by omega
        by_cases h6 : H.length ≤ 16
        · have g2 : (H.length : Int) ≤ 16 := by omega
          go_enter Tryz.func8, Tryz.ntmps8
          go_wp2_with fail
          refine (HF.out _ (HL.out.below hB)).mono ?_
          rintro e wk ⟨rfl, hb⟩
          replace hB := hB.trans (hb.mono hB.size)
          clear hb
          go_wp2_with fail
          refine (HAw.out _ (HT.out.below hB)).mono ?_
          rintro e wk ⟨rfl, hb⟩
          replace hB := hB.trans (hb.mono hB.size)
          clear hb
          go_wp2_with fail
          go_ret
          exact ⟨rfl, hB⟩
        · have g2 : ¬ (H.length : Int) ≤ 16 := by omega
          go_enter Tryz.func8, Tryz.ntmps8
          go_wp2_with fail
          refine (HF.out _ (HL.out.below hB)).mono ?_
          rintro e wk ⟨rfl, hb⟩
          replace hB := hB.trans (hb.mono hB.size)
          clear hb
          go_wp2_with fail
          refine (HF2.out _).mono ?_
          rintro e wk ⟨rfl, hb⟩
          replace hB := hB.trans (hb.mono hB.size)
          clear hb
          go_wp2_with fail
          refine (HAw.out _ (HT.out.below hB)).mono ?_
          rintro e wk ⟨rfl, hb⟩
          replace hB := hB.trans (hb.mono hB.size)
          clear hb
          go_wp2_with fail
          go_ret
          exact ⟨rfl, hB⟩
      · have g1 : ¬ (5 : Int) < (H.length : Int) := by omega
        go_enter Tryz.func8, Tryz.ntmps8
        go_wp2_with fail
        refine (HF.out _ (HL.out.below hB)).mono ?_
        rintro e wk ⟨rfl, hb⟩
        replace hB := hB.trans (hb.mono hB.size)
        clear hb
        go_wp2_with fail
        refine (HF2.out _).mono ?_
        rintro e wk ⟨rfl, hb⟩
        replace hB := hB.trans (hb.mono hB.size)
        clear hb
        go_wp2_with fail
        refine (HAw.out _ (HT.out.below hB)).mono ?_
        rintro e wk ⟨rfl, hb⟩
        replace hB := hB.trans (hb.mono hB.size)
        clear hb
        go_wp2_with fail
        go_ret
        exact ⟨rfl, hB⟩
theorem curve_chains (w : World) (A : Option Addr) (n c : Nat) (H : List Hd) (hl : shH.In w A n H) (hg : ∀ g ∈ H, (∃ l, shP.In w g.A g.n l) ∧ g.n ≤ maxLen) (hn : n ≤ maxLen) (s : ByteArray) (hs : s.size ≤ maxLen) (hL : Laid w) :
    Calls Tryz.prog 8 #[.slice A n c, .string s] w fun e w' => e = .returned (.bool true) ∧ Below w.heap.size w w' := by
  obtain ⟨L, h⟩ := curves_of hl hg
  exact cchains_walk w A n c H L s h (fun g hh => by have := (hg g hh).2; unfold maxLen at this; omega) (by unfold maxLen at hn; omega) (by unfold maxLen at hs; omega) hL.1
end Go.Proofs.YtfehefafgghopaaGreatDoor

namespace Go.Proofs.YtfehefafgghopaaGreatDoor.curveChainsP
open Go.ChangeShapes Go.ChangeMaps Go.WideShapes Go.ChangeAt Go.RowKit

set_option maxRecDepth 100000 in
theorem lifted (os : Os) (started : os.Started) (H : Type) (enc : TypeId × Value → H) :
    ReturnsInHanded {} Tryz.checked os 8 .any (fun w args => (Rows.curveChainsSpec.pre enc Tryz.prog Tryz.f8 [] false w args ∧ laidMetH Tryz.prog Rows.curveChainsRow.laid w) ∧ sizedMet enc Tryz.prog Tryz.f8 (OpenSpec.ofChange Rows.curveChainsSpec) false w args)
      (Rows.curveChainsSpec.post enc Tryz.prog Tryz.f8 false true false false) := by
  refine returnsInHanded_of_change_and (C := Tryz.checked) (X := fun w _ => laidMetH Tryz.prog Rows.curveChainsRow.laid w) (fun _ _ _ hh h => h.of_heap hh) own_ started (by kernel_rfl) Tryz.func8
    (ChangeSpec.witness_at (enc := enc) (C := Tryz.checked) (os := os) (X := fun w _ => laidMetH Tryz.prog Rows.curveChainsRow.laid w) false (laidWorld os) #[.slice none 0 0, .string ⟨#[]⟩] 8 rfl (by kernel_rfl) (by kernel_rfl) (by kernel_rfl) (by kernel_rfl) (by kernel_rfl) (laid_met os _)) ?_
  intro W base args ds gs before hval0 hW _ hWt hL _
  have hval : ∀ (j : Nat) t v, Tryz.f8.params[j]? = some t → args[j]? = some v → Value.okWide Tryz.prog W .any base t v := hval0
  have hW' := hW
  obtain ⟨p, q, hA0, hV, rfl, hfz, hnd⟩ := hW
  have hA : DataW.TrodAll enc Tryz.prog W 0 (fun _ => true) true Tryz.f8.params.toList args.toList ds p := hA0
  rw [Tryz.params8] at hA hval hWt
  obtain ⟨v0, vs0, d0, ds0, p0, q0, hargs, rfl, rfl, h0, r0⟩ := trodAll_cons hA
  obtain ⟨v1, vs1, d1, ds1, p1, q1, rfl, rfl, rfl, h1, r1⟩ := trodAll_cons r0
  obtain ⟨rfl, rfl, rfl⟩ := trodAll_nil r1
  obtain rfl : args = #[v0, v1] := by cases args; simp_all
  obtain ⟨rfl, rfl⟩ := trodVars_none hV
  have lt0 : ∀ x ∈ p0, x.block < W.heap.size := by obtain ⟨m, hm⟩ := h0; exact DataW.trod_lt m _ _ _ hm
  obtain ⟨A0, n0, c0, rfl⟩ := okWide_slice Tryz.underlying52 (hval 0 52 v0 rfl rfl)
  have k0 := h0
  obtain ⟨fuel0, hf0⟩ := k0
  obtain ⟨l0, hl0, hg0, hn0, hx0⟩ := open_rows shH Tryz.underlying52 (by kernel_rfl : Tryz.prog.cellsOf 22 = shH.z) (by decide) ⟨none, 0, 0⟩ _ (fun _ _ _ h => curve_cells h) hf0
  obtain ⟨x1, rfl, rfl, rfl, w1⟩ := open_string Tryz.underlying23 (hval 1 23 v1 rfl rfl) h1
  clear hA0 hval0 hWt
  simp only [List.append_nil] at hW'
  refine (curve_chains W A0 n0 c0 l0 hl0 hg0 hn0 x1 w1 (laid_of hL)).mono fun e W' ⟨he, bel⟩ => ?_
  subst he
  exact ⟨_, rfl, _, _, _, [], _, [], hW', trodAll_mk1 (shut_bool Tryz.underlying4 _), (trodAll_cons_mk (Below.trod laidOut (by kernel_rfl) (of_decide_eq_true (by kernel_rfl)) h0 bel lt0) (trodAll_cons_mk (shut_string Tryz.underlying23 w1) trodAll_mk0)), rfl, bel.frame _, fun h => by cases h⟩

theorem over : Rows.curveChainsRow.holds Tryz.pinned (OpenSpec.ofChange Rows.curveChainsSpec) :=
  OpenClaim.holds_of_wide 8 Tryz.f8 rfl rfl rfl rfl rfl rfl rfl ⟨rfl, rfl, rfl, rfl, rfl⟩ rfl rfl rfl rfl rfl (by kernel_rfl) Tryz.func8 curveChains_facts
    (of_decide_eq_true (by kernel_rfl)) (by unfold Func.isWrapper; rw [if_neg (of_decide_eq_false (by kernel_rfl))]; exact ⟨rfl, rfl⟩)
    (fun os started H enc _ => lifted os started H enc)

theorem noStandIn : ∀ t ∈ Tryz.f8.params.toList, Tryz.prog.wantsStandIn t = false := by
  rw [Tryz.params8]
  intro t ht
  simp only [List.mem_cons, List.not_mem_nil, or_false] at ht
  rcases ht with rfl | rfl <;> kernel_rfl

theorem proved : Rows.CurveChainsCardSaid :=
  Claim7.holds_tied_plain_at .later [] [.data, .data, .data, .data, .sentinel, .sentinel, .pinned] true (true, "7e007695281886813cdef532baba37053e1c23961511217fdbbfe3c0579aab35") true
    over (fun _ h => by cases h) (by kernel_rfl) (fun _ h => by cases h) curveChains_row_tie rfl ⟨rfl, rfl⟩ (by kernel_rfl) rfl
    (fun f fn hf hfn => by
      obtain rfl : f = 8 := Option.some.inj ((show Tryz.prog.funcNamed "luminaire/luminairelaw09.CurveChains" = some 8 by kernel_rfl).symm.trans hf) |>.symm
      obtain rfl : fn = Tryz.f8 := (Option.some.inj (Tryz.func8.symm.trans hfn)).symm
      exact ⟨by kernel_rfl, fun j t ht => noStandIn t (Array.mem_toList_iff.2 (Array.mem_of_getElem? ht))⟩)
    (by kernel_rfl)
#print axioms proved
end Go.Proofs.YtfehefafgghopaaGreatDoor.curveChainsP
