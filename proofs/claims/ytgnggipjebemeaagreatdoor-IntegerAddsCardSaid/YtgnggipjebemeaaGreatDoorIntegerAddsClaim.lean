/- IntegerAdds: for every input the law returns true, and its arguments read behind the call as they read before. The package variables that the row lists hold what the program's text lays. -/
import Derived.Test.YtgnggipjebemeaaGreatDoorGLaw
import Derived.Test.YtgnggipjebemeaaGreatDoorCards
import Derived.Test.YtgnggipjebemeaaGreatDoorTie
import Derived.SevenTiedAt
namespace Go.Proofs.YtgnggipjebemeaaGreatDoor
open Go.RowKit

theorem neg_no {s : BT} (h : chkI s ≠ 0) : opT (fun x y : Int => x - y) [48] s = ([], chkI s) := by
  have e : chk2 [48] s = chkI s := by unfold chk2; rw [if_neg (by decide)]
  unfold opT
  rw [e, if_pos h]
theorem neg_yes {s : BT} (h : chkI s = 0) : opT (fun x y : Int => x - y) [48] s = (negated s, 0) := by
  obtain ⟨h1, h2⟩ := valI_ok h
  have e : chk2 [48] s = 0 := chk2_zero.2 ⟨by decide, h⟩
  unfold opT
  rw [if_neg (by simpa using e), show valI [48] = 0 by decide]
  have hf : Fit (0 - valI s) := by unfold Fit at *; omega
  rw [longT_fit hf]
  conv => rhs; rw [h1]
  rw [negated_itoa, show (0 : Int) - valI s = -valI s by omega]
set_option maxRecDepth 100000 in
set_option maxHeartbeats 4000000 in
theorem adds_walk (w : World) (a : ByteArray) (ha : a.size ≤ maxLen) (b : ByteArray) (hb : b.size ≤ maxLen) (hL : Laid w) :
    Calls Tryz.prog 5 #[.string a, .string b] w fun e w' => e = .returned (.bool true) ∧ Below w.heap.size w w' := by
  unfold maxLen at ha hb
  have HT := Lib.hid hL.1
  have hB0 := (Below.refl w.heap.size w).alloc (Nat.le_refl _) (.cells #[.string a, .string b] 22)
  have hF := few_any (some ⟨w.heap.size, 0, none⟩) 2 2 [a, b] _ (Ss.fresh w [a, b] 22 #[.string a, .string b] rfl) (by omega) (by intro s hs; simp at hs; rcases hs with rfl | rfl <;> omega)
  have HAw := Lib.hid (fun w h => awake_any w h)
  clear hL
  cases hf : fewT [a, b]
  · rw [hf] at hF
    have HF := Lib.hid hF
    clear hF hf
    go_enter Tryz.func5, Tryz.ntmps5
    go_wp2_with (first | (go_at_call 10; with_reducible refine HF.out.mono ?_; rintro e wk ⟨rfl, hb⟩; have hB := hB0.trans (hb.mono hB0.size); clear hb) | (go_at_call 11; with_reducible refine (HAw.out _ (HT.out.below hB)).mono ?_; rintro e wk ⟨rfl, hb⟩; replace hB := hB.trans (hb.mono hB.size); clear hb))
    go_ret
    exact ⟨rfl, hB⟩
  · have hsz := few_sizes hf
    have ha5 := hsz a (by simp)
    have hb5 := hsz b (by simp)
    rw [hf] at hF
    have HF := Lib.hid hF
    have HA := Lib.hid (fun w h => add_any a b w (by omega) (by omega) h)
    have HRA := Lib.hid (fun w => radd_any a b w (by omega) (by omega))
    have HS := Lib.hid (fun w h => sub_any a b w (by omega) (by omega) h)
    have HRS := Lib.hid (fun w => rsub_any a b w (by omega) (by omega))
    have hN := fun w h => neg_any a w (by omega) h
    have HRC := Lib.hid (fun w => rcheck_any a w (by omega))
    have HRN := Lib.hid (fun w => rnegated_any a w (by omega))
    have HRM := Lib.hid (fun w => rmag_any a w (by omega))
    obtain ⟨R, hR⟩ : ∃ R, opT (fun x y : Int => x + y) a.data.toList b.data.toList = R := ⟨_, rfl⟩
    obtain ⟨S, hS⟩ : ∃ S, opT (fun x y : Int => x - y) a.data.toList b.data.toList = S := ⟨_, rfl⟩
    simp only [hR] at HA HRA
    simp only [hS] at HS HRS
    have HA : Hid (∀ w, Tab w → Calls Tryz.prog 22 #[.string a, .string b] w fun e w' => e = .returned (.tuple #[.string ⟨R.1.toArray⟩, .int .i64 R.2]) ∧ Below w.heap.size w w') := HA
    by_cases hc : chkI a.data.toList = 0
    · simp only [neg_yes hc] at hN
      have HAb := Lib.hid (fun w => abs_yes a w (by omega) hc)
      rw [hc] at HRC
      generalize (⟨(negated a.data.toList).toArray⟩ : ByteArray) = N at *
      generalize (⟨(bodyT a.data.toList).toArray⟩ : ByteArray) = M at *
      have HN := Lib.hid hN
      clear hN hF hf hsz hc hR hS
      go_enter Tryz.func5, Tryz.ntmps5
      go_wp2_with (first | (go_at_call 10; with_reducible refine HF.out.mono ?_; rintro e wk ⟨rfl, hb⟩; have hB := hB0.trans (hb.mono hB0.size); clear hb) | (go_at_call 11; with_reducible refine (HAw.out _ (HT.out.below hB)).mono ?_; rintro e wk ⟨rfl, hb⟩; replace hB := hB.trans (hb.mono hB.size); clear hb) | (go_at_call 22; with_reducible refine (HA.out _ (HT.out.below hB)).mono ?_; rintro e wk ⟨rfl, hb⟩; replace hB := hB.trans (hb.mono hB.size); clear hb) | (go_at_call 23; with_reducible refine (HRA.out _).mono ?_; rintro e wk ⟨rfl, hb⟩; replace hB := hB.trans (hb.mono hB.size); clear hb) | (go_at_call 24; with_reducible refine (HS.out _ (HT.out.below hB)).mono ?_; rintro e wk ⟨rfl, hb⟩; replace hB := hB.trans (hb.mono hB.size); clear hb) | (go_at_call 25; with_reducible refine (HRS.out _).mono ?_; rintro e wk ⟨rfl, hb⟩; replace hB := hB.trans (hb.mono hB.size); clear hb) | (go_at_call 26; with_reducible refine (HN.out _ (HT.out.below hB)).mono ?_; rintro e wk ⟨rfl, hb⟩; replace hB := hB.trans (hb.mono hB.size); clear hb) | (go_at_call 27; with_reducible refine (HAb.out _).mono ?_; rintro e wk ⟨rfl, hb⟩; replace hB := hB.trans (hb.mono hB.size); clear hb) | (go_at_call 28; with_reducible refine (HRC.out _).mono ?_; rintro e wk ⟨rfl, hb⟩; replace hB := hB.trans (hb.mono hB.size); clear hb) | (go_at_call 29; with_reducible refine (HRN.out _).mono ?_; rintro e wk ⟨rfl, hb⟩; replace hB := hB.trans (hb.mono hB.size); clear hb) | (go_at_call 30; with_reducible refine (HRM.out _).mono ?_; rintro e wk ⟨rfl, hb⟩; replace hB := hB.trans (hb.mono hB.size); clear hb))
      go_ret
      exact ⟨rfl, hB⟩
    · simp only [neg_no hc] at hN
      have HAb := Lib.hid (fun w => abs_no a w (by omega) hc)
      generalize chkI a.data.toList = k at *
      have g1 : (k == 0) = false := by simpa using hc
      have g2 : (k != 0) = true := by simpa using hc
      have HN := Lib.hid hN
      clear hN hF hf hsz hc hR hS
      go_enter Tryz.func5, Tryz.ntmps5
      go_wp2_with (first | (go_at_call 10; with_reducible refine HF.out.mono ?_; rintro e wk ⟨rfl, hb⟩; have hB := hB0.trans (hb.mono hB0.size); clear hb) | (go_at_call 11; with_reducible refine (HAw.out _ (HT.out.below hB)).mono ?_; rintro e wk ⟨rfl, hb⟩; replace hB := hB.trans (hb.mono hB.size); clear hb) | (go_at_call 22; with_reducible refine (HA.out _ (HT.out.below hB)).mono ?_; rintro e wk ⟨rfl, hb⟩; replace hB := hB.trans (hb.mono hB.size); clear hb) | (go_at_call 23; with_reducible refine (HRA.out _).mono ?_; rintro e wk ⟨rfl, hb⟩; replace hB := hB.trans (hb.mono hB.size); clear hb) | (go_at_call 24; with_reducible refine (HS.out _ (HT.out.below hB)).mono ?_; rintro e wk ⟨rfl, hb⟩; replace hB := hB.trans (hb.mono hB.size); clear hb) | (go_at_call 25; with_reducible refine (HRS.out _).mono ?_; rintro e wk ⟨rfl, hb⟩; replace hB := hB.trans (hb.mono hB.size); clear hb) | (go_at_call 26; with_reducible refine (HN.out _ (HT.out.below hB)).mono ?_; rintro e wk ⟨rfl, hb⟩; replace hB := hB.trans (hb.mono hB.size); clear hb) | (go_at_call 27; with_reducible refine (HAb.out _).mono ?_; rintro e wk ⟨rfl, hb⟩; replace hB := hB.trans (hb.mono hB.size); clear hb) | (go_at_call 28; with_reducible refine (HRC.out _).mono ?_; rintro e wk ⟨rfl, hb⟩; replace hB := hB.trans (hb.mono hB.size); clear hb) | (go_at_call 29; with_reducible refine (HRN.out _).mono ?_; rintro e wk ⟨rfl, hb⟩; replace hB := hB.trans (hb.mono hB.size); clear hb) | (go_at_call 30; with_reducible refine (HRM.out _).mono ?_; rintro e wk ⟨rfl, hb⟩; replace hB := hB.trans (hb.mono hB.size); clear hb))
      go_ret
      exact ⟨rfl, hB⟩
end Go.Proofs.YtgnggipjebemeaaGreatDoor

namespace Go.Proofs.YtgnggipjebemeaaGreatDoor.integerAddsP
open Go.ChangeShapes Go.ChangeMaps Go.WideShapes Go.ChangeAt Go.RowKit

set_option maxRecDepth 100000 in
theorem lifted (os : Os) (started : os.Started) (H : Type) (enc : TypeId × Value → H) :
    ReturnsInHanded {} Tryz.checked os 5 .any (fun w args => (Rows.integerAddsSpec.pre enc Tryz.prog Tryz.f5 [] false w args ∧ laidMetH Tryz.prog Rows.integerAddsRow.laid w) ∧ sizedMet enc Tryz.prog Tryz.f5 (OpenSpec.ofChange Rows.integerAddsSpec) false w args)
      (Rows.integerAddsSpec.post enc Tryz.prog Tryz.f5 false true false false) := by
  refine returnsInHanded_of_change_and (C := Tryz.checked) (X := fun w _ => laidMetH Tryz.prog Rows.integerAddsRow.laid w) (fun _ _ _ hh h => h.of_heap hh) own_ started (by kernel_rfl) Tryz.func5
    (ChangeSpec.witness_at (enc := enc) (C := Tryz.checked) (os := os) (X := fun w _ => laidMetH Tryz.prog Rows.integerAddsRow.laid w) false (laidWorld os) #[.string ⟨#[]⟩, .string ⟨#[]⟩] 8 rfl (by kernel_rfl) (by kernel_rfl) (by kernel_rfl) (by kernel_rfl) (by kernel_rfl) (laid_met os _)) ?_
  intro W base args ds gs before hval0 hW _ _ hL _
  have hval : ∀ (j : Nat) t v, Tryz.f5.params[j]? = some t → args[j]? = some v → Value.okWide Tryz.prog W .any base t v := hval0
  have hW' := hW
  obtain ⟨p, q, hA0, hV, rfl, hfz, hnd⟩ := hW
  have hA : DataW.TrodAll enc Tryz.prog W 0 (fun _ => true) true Tryz.f5.params.toList args.toList ds p := hA0
  rw [Tryz.params5] at hA hval
  obtain ⟨v0, vs0, d0, ds0, p0, q0, hargs, rfl, rfl, h0, r0⟩ := trodAll_cons hA
  obtain ⟨v1, vs1, d1, ds1, p1, q1, rfl, rfl, rfl, h1, r1⟩ := trodAll_cons r0
  obtain ⟨rfl, rfl, rfl⟩ := trodAll_nil r1
  obtain rfl : args = #[v0, v1] := by cases args; simp_all
  obtain ⟨rfl, rfl⟩ := trodVars_none hV
  obtain ⟨x0, rfl, rfl, rfl, w0⟩ := open_string Tryz.underlying22 (hval 0 22 v0 rfl rfl) h0
  obtain ⟨x1, rfl, rfl, rfl, w1⟩ := open_string Tryz.underlying22 (hval 1 22 v1 rfl rfl) h1
  clear hA0 hval0
  simp only [List.append_nil] at hW'
  refine (adds_walk W x0 w0 x1 w1 (laid_of hL)).mono fun e W' ⟨he, bel⟩ => ?_
  subst he
  exact ⟨_, rfl, _, _, _, [], _, [], hW', trodAll_mk1 (shut_bool Tryz.underlying4 _), (trodAll_cons_mk (shut_string Tryz.underlying22 w0) (trodAll_cons_mk (shut_string Tryz.underlying22 w1) trodAll_mk0)), rfl, bel.frame _, fun h => by cases h⟩

theorem over : Rows.integerAddsRow.holds Tryz.pinned (OpenSpec.ofChange Rows.integerAddsSpec) :=
  OpenClaim.holds_of_wide 5 Tryz.f5 rfl rfl rfl rfl rfl rfl rfl ⟨rfl, rfl, rfl, rfl, rfl⟩ rfl rfl rfl rfl rfl (by kernel_rfl) Tryz.func5 (by kernel_rfl)
    (of_decide_eq_true (by kernel_rfl)) (by unfold Func.isWrapper; rw [if_neg (of_decide_eq_false (by kernel_rfl))]; exact ⟨rfl, rfl⟩)
    (fun os started H enc _ => lifted os started H enc)

theorem noStandIn : ∀ t ∈ Tryz.f5.params.toList, Tryz.prog.wantsStandIn t = false := by
  rw [Tryz.params5]
  intro t ht
  simp only [List.mem_cons, List.not_mem_nil, or_false] at ht
  rcases ht with rfl | rfl <;> kernel_rfl

theorem proved : Rows.IntegerAddsCardSaid :=
  Claim7.holds_tied_plain_at .later [] [.data, .data, .data, .data, .sentinel, .sentinel, .pinned] true (true, "da94b0f823b9b65d38769238b5dbe6098aa8685618d44faf74c6bdbf67105759") true
    over (fun _ h => by cases h) (by kernel_rfl) (fun _ h => by cases h) integerAdds_row_tie rfl ⟨rfl, rfl⟩ (by kernel_rfl) rfl
    (fun f fn hf hfn => by
      obtain rfl : f = 5 := Option.some.inj ((show Tryz.prog.funcNamed "luminaire/luminairelaw01.IntegerAdds" = some 5 by kernel_rfl).symm.trans hf) |>.symm
      obtain rfl : fn = Tryz.f5 := (Option.some.inj (Tryz.func5.symm.trans hfn)).symm
      exact ⟨by kernel_rfl, fun j t ht => noStandIn t (Array.mem_toList_iff.2 (Array.mem_of_getElem? ht))⟩)
    (by kernel_rfl)
#print axioms proved
end Go.Proofs.YtgnggipjebemeaaGreatDoor.integerAddsP
