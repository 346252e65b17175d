/- IntegerChecks: for every input the law returns true, and its arguments read behind the call as they read before. The package variables that the row lists hold what the program's text lays. -/
import Derived.Test.YtgnggipjebemeaaGreatDoorGLaw
import Derived.Test.YtgnggipjebemeaaGreatDoorCards
import Derived.Test.YtgnggipjebemeaaGreatDoorTie
import Derived.SevenTiedAt
namespace Go.Proofs.YtgnggipjebemeaaGreatDoor
open Go.RowKit

set_option maxRecDepth 100000 in
set_option maxHeartbeats 4000000 in
theorem compares_walk (w : World) (a : ByteArray) (ha : a.size ≤ maxLen) (b : ByteArray) (hb : b.size ≤ maxLen) (n : Int) (hn : (Lit.int .i64 n).wf = true) (hL : Laid w) :
    Calls Tryz.prog 6 #[.string a, .string b, .int .i64 n] w fun e w' => e = .returned (.bool true) ∧ Below w.heap.size w w' := by
  unfold maxLen at ha hb
  have hn' : -9223372036854775808 ≤ n ∧ n ≤ 9223372036854775807 := by simpa [Lit.wf, IntKind.min, IntKind.max, IntKind.bits, IntKind.signed] using hn
  obtain ⟨hn0, hn1⟩ := hn'
  have HT := Lib.hid hL.1
  have hB0 := (Below.refl w.heap.size w).alloc (Nat.le_refl _) (.cells #[.string a, .string b] 22)
  have hF := few_any (some ⟨w.heap.size, 0, none⟩) 2 2 [a, b] _ (Ss.fresh w [a, b] 22 #[.string a, .string b] rfl) (by omega) (by intro s hs; simp at hs; rcases hs with rfl | rfl <;> omega)
  have HAw := Lib.hid (fun w h => awake_any w h)
  clear hL
  cases hf : fewT [a, b]
  · rw [hf] at hF
    have HF := Lib.hid hF
    clear hF hf
    go_enter Tryz.func6, Tryz.ntmps6
    go_wp2_with (first | (go_at_call 10; with_reducible refine HF.out.mono ?_; rintro e wk ⟨rfl, hb⟩; have hB := hB0.trans (hb.mono hB0.size); clear hb) | (go_at_call 11; with_reducible refine (HAw.out _ (HT.out.below hB)).mono ?_; rintro e wk ⟨rfl, hb⟩; replace hB := hB.trans (hb.mono hB.size); clear hb))
    go_ret
    exact ⟨rfl, hB⟩
  · have hsz := few_sizes hf
    have ha5 := hsz a (by simp)
    have hb5 := hsz b (by simp)
    rw [hf] at hF
    have HF := Lib.hid hF
    have h1 := fun w => compare_int_any a b w (by omega) (by omega)
    have h2 := fun w => rboth_any a b w (by omega) (by omega)
    have H4 := Lib.hid (fun w h => of_fit hn0 hn1 w h)
    have H5 := Lib.hid (fun w => (show Calls _ _ _ w fun e w' => e = .returned (.string (sI n)) ∧ Below w.heap.size w w' from rwhole_any n hn0 hn1 w))
    generalize sI n = N at *
    clear hF hf hsz
    by_cases hc : chk2 a.data.toList b.data.toList = 0
    · obtain ⟨c1, c2⟩ := chk2_zero.1 hc
      rw [show comT a.data.toList b.data.toList = ((valI a.data.toList - valI b.data.toList).sign, 0) by unfold comT; rw [if_neg (by simpa using hc)]] at h1
      rw [hc] at h2
      obtain ⟨hax, -⟩ := valI_ok c1
      obtain ⟨hby, -⟩ := valI_ok c2
      have h3 := fun w => rorder_any a b _ _ w hax hby (by omega) (by omega)
      generalize (valI a.data.toList - valI b.data.toList).sign = s at *
      have H1 := Lib.hid h1
      have H2 := Lib.hid h2
      have H3 := Lib.hid h3
      clear h1 h2 h3 hax hby c1 c2 hc
      go_enter Tryz.func6, Tryz.ntmps6
      go_wp2_with (first | (go_at_call 10; with_reducible refine HF.out.mono ?_; rintro e wk ⟨rfl, hb⟩; have hB := hB0.trans (hb.mono hB0.size); clear hb) | (go_at_call 11; with_reducible refine (HAw.out _ (HT.out.below hB)).mono ?_; rintro e wk ⟨rfl, hb⟩; replace hB := hB.trans (hb.mono hB.size); clear hb) | (go_at_call 31; with_reducible refine (H1.out _).mono ?_; rintro e wk ⟨rfl, hb⟩; replace hB := hB.trans (hb.mono hB.size); clear hb) | (go_at_call 19; with_reducible refine (H2.out _).mono ?_; rintro e wk ⟨rfl, hb⟩; replace hB := hB.trans (hb.mono hB.size); clear hb) | (go_at_call 34; with_reducible refine (H3.out _).mono ?_; rintro e wk ⟨rfl, hb⟩; replace hB := hB.trans (hb.mono hB.size); clear hb) | (go_at_call 32; with_reducible refine (H4.out _ (HT.out.below hB)).mono ?_; rintro e wk ⟨rfl, hb⟩; replace hB := hB.trans (hb.mono hB.size); clear hb) | (go_at_call 33; with_reducible refine (H5.out _).mono ?_; rintro e wk ⟨rfl, hb⟩; replace hB := hB.trans (hb.mono hB.size); clear hb))
      go_ret
      exact ⟨rfl, hB⟩
    · rw [show comT a.data.toList b.data.toList = (0, chk2 a.data.toList b.data.toList) by unfold comT; rw [if_pos hc]] at h1
      generalize chk2 a.data.toList b.data.toList = k at *
      have g1 : (k == 0) = false := by simpa using hc
      have g2 : (k != 0) = true := by simpa using hc
      have H1 := Lib.hid h1
      have H2 := Lib.hid h2
      clear h1 h2
      go_enter Tryz.func6, Tryz.ntmps6
      go_wp2_with (first | (go_at_call 10; with_reducible refine HF.out.mono ?_; rintro e wk ⟨rfl, hb⟩; have hB := hB0.trans (hb.mono hB0.size); clear hb) | (go_at_call 11; with_reducible refine (HAw.out _ (HT.out.below hB)).mono ?_; rintro e wk ⟨rfl, hb⟩; replace hB := hB.trans (hb.mono hB.size); clear hb) | (go_at_call 31; with_reducible refine (H1.out _).mono ?_; rintro e wk ⟨rfl, hb⟩; replace hB := hB.trans (hb.mono hB.size); clear hb) | (go_at_call 19; with_reducible refine (H2.out _).mono ?_; rintro e wk ⟨rfl, hb⟩; replace hB := hB.trans (hb.mono hB.size); clear hb) | (go_at_call 32; with_reducible refine (H4.out _ (HT.out.below hB)).mono ?_; rintro e wk ⟨rfl, hb⟩; replace hB := hB.trans (hb.mono hB.size); clear hb) | (go_at_call 33; with_reducible refine (H5.out _).mono ?_; rintro e wk ⟨rfl, hb⟩; replace hB := hB.trans (hb.mono hB.size); clear hb))
      go_ret
      exact ⟨rfl, hB⟩

set_option maxRecDepth 100000 in
set_option maxHeartbeats 4000000 in
theorem checks_walk (w : World) (a : ByteArray) (ha : a.size ≤ maxLen) (hL : Laid w) :
    Calls Tryz.prog 9 #[.string a] w fun e w' => e = .returned (.bool true) ∧ Below w.heap.size w w' := by
  unfold maxLen at ha
  have HT := Lib.hid hL.1
  have HR := Lib.hid hL.2
  have hB0 := (Below.refl w.heap.size w).alloc (Nat.le_refl _) (.cells #[.string a] 22)
  have hF := few_any (some ⟨w.heap.size, 0, none⟩) 1 1 [a] _ (Ss.fresh w [a] 22 #[.string a] rfl) (by omega) (by intro s hs; simp at hs; subst hs; omega)
  have HAw := Lib.hid (fun w h => awake_any w h)
  clear hL
  cases hf : fewT [a]
  · rw [hf] at hF
    have HF := Lib.hid hF
    clear hF hf
    go_enter Tryz.func9, Tryz.ntmps9
    go_wp2_with (first | (go_at_call 10; with_reducible refine HF.out.mono ?_; rintro e wk ⟨rfl, hb⟩; have hB := hB0.trans (hb.mono hB0.size); clear hb) | (go_at_call 11; with_reducible refine (HAw.out _ (HT.out.below hB)).mono ?_; rintro e wk ⟨rfl, hb⟩; replace hB := hB.trans (hb.mono hB.size); clear hb))
    go_ret
    exact ⟨rfl, hB⟩
  · have ha5 := few_sizes hf a (by simp)
    rw [hf] at hF
    have HF := Lib.hid hF
    have h1 := fun w => rcheck_any a w (by omega)
    have h2 := fun w h => small_any a w (by omega) h
    have h3 := fun w => rsmall_any a w (by omega)
    have h4 := fun w => sign_int_any a w (by omega)
    have h5 := fun w => check_any a w (by omega)
    have h6 := fun w => rdigits_any a w (by omega)
    have h7 := fun w => rsign_any a w (by omega)
    clear hF hf
    generalize smallT a.data.toList = S at *
    by_cases hc : chkI a.data.toList = 0
    · have h8 := fun w => digits_yes a w (by omega) hc
      obtain ⟨hax, hfx⟩ := valI_ok hc
      rw [show comT a.data.toList [48] = ((valI a.data.toList).sign, 0) by
        unfold comT
        rw [if_neg (by simpa using chk2_zero.2 ⟨hc, (by decide : chkI [48] = 0)⟩), show valI [48] = 0 by decide, show valI a.data.toList - 0 = valI a.data.toList by omega]] at h4
      rw [show sgnT a.data.toList = (valI a.data.toList).sign by rw [hax, sgnT_itoa, valI_itoa]] at h7
      rw [hc] at h1 h5
      generalize (valI a.data.toList).sign = s at *
      generalize ((bodyT a.data.toList).length : Int) = d at *
      have H1 := Lib.hid h1
      have H2 := Lib.hid h2
      have H3 := Lib.hid h3
      have H4 := Lib.hid h4
      have H5 := Lib.hid h5
      have H6 := Lib.hid h6
      have H7 := Lib.hid h7
      have H8 := Lib.hid h8
      clear h1 h2 h3 h4 h5 h6 h7 h8 hax hfx hc
      go_enter Tryz.func9, Tryz.ntmps9
      go_wp2_with (first | (go_at_call 10; with_reducible refine HF.out.mono ?_; rintro e wk ⟨rfl, hb⟩; have hB := hB0.trans (hb.mono hB0.size); clear hb) | (go_at_call 11; with_reducible refine (HAw.out _ (HT.out.below hB)).mono ?_; rintro e wk ⟨rfl, hb⟩; replace hB := hB.trans (hb.mono hB.size); clear hb) | (go_at_call 28; with_reducible refine (H1.out _).mono ?_; rintro e wk ⟨rfl, hb⟩; replace hB := hB.trans (hb.mono hB.size); clear hb) | (go_at_call 36; with_reducible refine (H2.out _ (Rng.below HR.out hB)).mono ?_; rintro e wk ⟨rfl, hbk⟩; replace hB := hB.trans (hbk.mono hB.size); clear hbk) | (go_at_call 37; with_reducible refine (H3.out _).mono ?_; rintro e wk ⟨rfl, hb⟩; replace hB := hB.trans (hb.mono hB.size); clear hb) | (go_at_call 35; with_reducible refine (H4.out _).mono ?_; rintro e wk ⟨rfl, hb⟩; replace hB := hB.trans (hb.mono hB.size); clear hb) | (go_at_call 39; with_reducible refine (H5.out _).mono ?_; rintro e wk ⟨rfl, hb⟩; replace hB := hB.trans (hb.mono hB.size); clear hb) | (go_at_call 40; with_reducible refine (H6.out _).mono ?_; rintro e wk ⟨rfl, hb⟩; replace hB := hB.trans (hb.mono hB.size); clear hb) | (go_at_call 41; with_reducible refine (H7.out _).mono ?_; rintro e wk ⟨rfl, hb⟩; replace hB := hB.trans (hb.mono hB.size); clear hb) | (go_at_call 38; with_reducible refine (H8.out _).mono ?_; rintro e wk ⟨rfl, hb⟩; replace hB := hB.trans (hb.mono hB.size); clear hb))
      go_ret
      exact ⟨rfl, hB⟩
    · have h8 := fun w => digits_no a w (by omega) hc
      have e2 : chk2 a.data.toList [48] = chkI a.data.toList := by unfold chk2; rw [if_pos hc]
      rw [show comT a.data.toList [48] = (0, chkI a.data.toList) by unfold comT; rw [e2, if_pos hc]] at h4
      generalize chkI a.data.toList = k at *
      have g1 : (k == 0) = false := by simpa using hc
      have g2 : (k != 0) = true := by simpa using hc
      have H1 := Lib.hid h1
      have H2 := Lib.hid h2
      have H3 := Lib.hid h3
      have H4 := Lib.hid h4
      have H5 := Lib.hid h5
      have H8 := Lib.hid h8
      clear h1 h2 h3 h4 h5 h6 h7 h8 e2
      go_enter Tryz.func9, Tryz.ntmps9
      go_wp2_with (first | (go_at_call 10; with_reducible refine HF.out.mono ?_; rintro e wk ⟨rfl, hb⟩; have hB := hB0.trans (hb.mono hB0.size); clear hb) | (go_at_call 11; with_reducible refine (HAw.out _ (HT.out.below hB)).mono ?_; rintro e wk ⟨rfl, hb⟩; replace hB := hB.trans (hb.mono hB.size); clear hb) | (go_at_call 28; with_reducible refine (H1.out _).mono ?_; rintro e wk ⟨rfl, hb⟩; replace hB := hB.trans (hb.mono hB.size); clear hb) | (go_at_call 36; with_reducible refine (H2.out _ (Rng.below HR.out hB)).mono ?_; rintro e wk ⟨rfl, hbk⟩; replace hB := hB.trans (hbk.mono hB.size); clear hbk) | (go_at_call 37; with_reducible refine (H3.out _).mono ?_; rintro e wk ⟨rfl, hb⟩; replace hB := hB.trans (hb.mono hB.size); clear hb) | (go_at_call 35; with_reducible refine (H4.out _).mono ?_; rintro e wk ⟨rfl, hb⟩; replace hB := hB.trans (hb.mono hB.size); clear hb) | (go_at_call 39; with_reducible refine (H5.out _).mono ?_; rintro e wk ⟨rfl, hb⟩; replace hB := hB.trans (hb.mono hB.size); clear hb) | (go_at_call 38; with_reducible refine (H8.out _).mono ?_; rintro e wk ⟨rfl, hb⟩; replace hB := hB.trans (hb.mono hB.size); clear hb))
      go_ret
      exact ⟨rfl, hB⟩
end Go.Proofs.YtgnggipjebemeaaGreatDoor

namespace Go.Proofs.YtgnggipjebemeaaGreatDoor.integerChecksP
open Go.ChangeShapes Go.ChangeMaps Go.WideShapes Go.ChangeAt Go.RowKit

set_option maxRecDepth 100000 in
theorem lifted (os : Os) (started : os.Started) (H : Type) (enc : TypeId × Value → H) :
    ReturnsInHanded {} Tryz.checked os 9 .any (fun w args => (Rows.integerChecksSpec.pre enc Tryz.prog Tryz.f9 [] false w args ∧ laidMetH Tryz.prog Rows.integerChecksRow.laid w) ∧ sizedMet enc Tryz.prog Tryz.f9 (OpenSpec.ofChange Rows.integerChecksSpec) false w args)
      (Rows.integerChecksSpec.post enc Tryz.prog Tryz.f9 false true false false) := by
  refine returnsInHanded_of_change_and (C := Tryz.checked) (X := fun w _ => laidMetH Tryz.prog Rows.integerChecksRow.laid w) (fun _ _ _ hh h => h.of_heap hh) own_ started (by kernel_rfl) Tryz.func9
    (ChangeSpec.witness_at (enc := enc) (C := Tryz.checked) (os := os) (X := fun w _ => laidMetH Tryz.prog Rows.integerChecksRow.laid w) false (laidWorld os) #[.string ⟨#[]⟩] 8 rfl (by kernel_rfl) (by kernel_rfl) (by kernel_rfl) (by kernel_rfl) (by kernel_rfl) (laid_met os _)) ?_
  intro W base args ds gs before hval0 hW _ _ hL _
  have hval : ∀ (j : Nat) t v, Tryz.f9.params[j]? = some t → args[j]? = some v → Value.okWide Tryz.prog W .any base t v := hval0
  have hW' := hW
  obtain ⟨p, q, hA0, hV, rfl, hfz, hnd⟩ := hW
  have hA : DataW.TrodAll enc Tryz.prog W 0 (fun _ => true) true Tryz.f9.params.toList args.toList ds p := hA0
  rw [Tryz.params9] at hA hval
  obtain ⟨v0, vs0, d0, ds0, p0, q0, hargs, rfl, rfl, h0, r0⟩ := trodAll_cons hA
  obtain ⟨rfl, rfl, rfl⟩ := trodAll_nil r0
  obtain rfl : args = #[v0] := by cases args; simp_all
  obtain ⟨rfl, rfl⟩ := trodVars_none hV
  obtain ⟨x0, rfl, rfl, rfl, w0⟩ := open_string Tryz.underlying22 (hval 0 22 v0 rfl rfl) h0
  clear hA0 hval0
  simp only [List.append_nil] at hW'
  refine (checks_walk W x0 w0 (laid_of hL)).mono fun e W' ⟨he, bel⟩ => ?_
  subst he
  exact ⟨_, rfl, _, _, _, [], _, [], hW', trodAll_mk1 (shut_bool Tryz.underlying4 _), (trodAll_cons_mk (shut_string Tryz.underlying22 w0) trodAll_mk0), rfl, bel.frame _, fun h => by cases h⟩

theorem over : Rows.integerChecksRow.holds Tryz.pinned (OpenSpec.ofChange Rows.integerChecksSpec) :=
  OpenClaim.holds_of_wide 9 Tryz.f9 rfl rfl rfl rfl rfl rfl rfl ⟨rfl, rfl, rfl, rfl, rfl⟩ rfl rfl rfl rfl rfl (by kernel_rfl) Tryz.func9 (by kernel_rfl)
    (of_decide_eq_true (by kernel_rfl)) (by unfold Func.isWrapper; rw [if_neg (of_decide_eq_false (by kernel_rfl))]; exact ⟨rfl, rfl⟩)
    (fun os started H enc _ => lifted os started H enc)

theorem noStandIn : ∀ t ∈ Tryz.f9.params.toList, Tryz.prog.wantsStandIn t = false := by
  rw [Tryz.params9]
  intro t ht
  simp only [List.mem_cons, List.not_mem_nil, or_false] at ht
  subst ht
  kernel_rfl

theorem proved : Rows.IntegerChecksCardSaid :=
  Claim7.holds_tied_plain_at .later [] [.data, .data, .data, .data, .sentinel, .sentinel, .pinned] true (true, "da94b0f823b9b65d38769238b5dbe6098aa8685618d44faf74c6bdbf67105759") true
    over (fun _ h => by cases h) (by kernel_rfl) (fun _ h => by cases h) integerChecks_row_tie rfl ⟨rfl, rfl⟩ (by kernel_rfl) rfl
    (fun f fn hf hfn => by
      obtain rfl : f = 9 := Option.some.inj ((show Tryz.prog.funcNamed "luminaire/luminairelaw01.IntegerChecks" = some 9 by kernel_rfl).symm.trans hf) |>.symm
      obtain rfl : fn = Tryz.f9 := (Option.some.inj (Tryz.func9.symm.trans hfn)).symm
      exact ⟨by kernel_rfl, fun j t ht => noStandIn t (Array.mem_toList_iff.2 (Array.mem_of_getElem? ht))⟩)
    (by kernel_rfl)
#print axioms proved
end Go.Proofs.YtgnggipjebemeaaGreatDoor.integerChecksP
