/- LevelBytes: for every input the law returns true, and its arguments read behind the call as they read before. The package variables that the row lists hold what the program's text lays. -/
import Derived.Test.YtjbhfkcjmjhhdaaGreatDoorGLevB
import Derived.Test.YtjbhfkcjmjhhdaaGreatDoorGLaw
import Derived.Test.YtjbhfkcjmjhhdaaGreatDoorCards
import Derived.Test.YtjbhfkcjmjhhdaaGreatDoorTie
import Derived.SevenTiedAt
namespace Go.Proofs.YtjbhfkcjmjhhdaaGreatDoor
open Go.RowKit

theorem wf_i64 {n : Int} (h : (Lit.int .i64 n).wf = true) : -9223372036854775808 ≤ n ∧ n ≤ 9223372036854775807 := by simpa [Lit.wf, IntKind.min, IntKind.max, IntKind.bits, IntKind.signed] using h
theorem wf_u16 {n : Int} (h : (Lit.int .u16 n).wf = true) : 0 ≤ n ∧ n ≤ 65535 := by simpa [Lit.wf, IntKind.min, IntKind.max, IntKind.bits, IntKind.signed] using h
theorem wf_u8 {n : Int} (h : (Lit.int .u8 n).wf = true) : 0 ≤ n ∧ n ≤ 255 := by simpa [Lit.wf, IntKind.min, IntKind.max, IntKind.bits, IntKind.signed] using h
set_option maxRecDepth 100000 in
set_option maxHeartbeats 4000000 in
theorem percents_walk (w : World) (s : ByteArray) (hs : s.size ≤ maxLen) (hL : Laid w) :
    Calls Tryz.prog 3 #[.string s] w fun e w' => e = .returned (.bool true) ∧ Below w.heap.size w w' := by
  unfold maxLen at hs
  have hB := Below.refl w.heap.size w
  have HT := Lib.hid hL.1
  have HRg := Lib.hid hL.2
  have HAw := Lib.hid (fun w h g => vawake_any w h g)
  have HP := Lib.hid (fun w => vpercent_any s w hs)
  have HQ := Lib.hid (fun w => rlpercent_any s w hs)
  generalize (pctT s.data.toList).1 = p at *
  generalize (pctT s.data.toList).2 = q at *
  clear hL
  go_enter Tryz.func3, Tryz.ntmps3
  go_wp2_with (first | (go_at_call 13; with_reducible refine (HP.out _).mono ?_; rintro e wk ⟨rfl, hb⟩; replace hB := hB.trans (hb.mono hB.size); clear hb) | (go_at_call 14; with_reducible refine (HQ.out _).mono ?_; rintro e wk ⟨rfl, hb⟩; replace hB := hB.trans (hb.mono hB.size); clear hb) | (go_at_call 15; with_reducible refine (HAw.out _ (HT.out.below hB) (HRg.out.below hB)).mono ?_; rintro e wk ⟨rfl, hb⟩; replace hB := hB.trans (hb.mono hB.size); clear hb))
  go_ret
  exact ⟨rfl, hB⟩
theorem vtext_any (v : Int) (w : World) (ht : Tab w) :
    Calls Tryz.prog 16 #[.int .i64 v] w fun e w' => e = .returned (.tuple #[.string ⟨(if 0 ≤ v ∧ v ≤ 65535 then namedT v else []).toArray⟩, .int .i64 (if 0 ≤ v ∧ v ≤ 65535 then 0 else 2)]) ∧ Below w.heap.size w w' := by
  by_cases h : 0 ≤ v ∧ v ≤ 65535
  · rw [if_pos h, if_pos h]; exact vtext_ok v w ht h.1 h.2
  · rw [if_neg h, if_neg h]; exact vtext_bad v w h
set_option maxRecDepth 100000 in
set_option maxHeartbeats 4000000 in
theorem texts_walk (w : World) (v : Int) (_ : (Lit.int .i64 v).wf = true) (hL : Laid w) :
    Calls Tryz.prog 4 #[.int .i64 v] w fun e w' => e = .returned (.bool true) ∧ Below w.heap.size w w' := by
  have hB := Below.refl w.heap.size w
  have HT := Lib.hid hL.1
  have HRg := Lib.hid hL.2
  have HAw := Lib.hid (fun w h g => vawake_any w h g)
  have HP := Lib.hid (fun w h => vtext_any v w h)
  have HQ := Lib.hid (fun w => rltext_any v w)
  have HC := Lib.hid (fun w => vcheck_any v w)
  have HD := Lib.hid (fun w => rlcheck_any v w)
  generalize (⟨(if 0 ≤ v ∧ v ≤ 65535 then namedT v else []).toArray⟩ : ByteArray) = p at *
  generalize (if 0 ≤ v ∧ v ≤ 65535 then (0 : Int) else 2) = q at *
  have g1 : (p.toList == p.toList) = true := by simp
  clear hL
  go_enter Tryz.func4, Tryz.ntmps4
  go_wp2_with (first | (go_at_call 16; with_reducible refine (HP.out _ (HT.out.below hB)).mono ?_; rintro e wk ⟨rfl, hb⟩; replace hB := hB.trans (hb.mono hB.size); clear hb) | (go_at_call 17; with_reducible refine (HQ.out _).mono ?_; rintro e wk ⟨rfl, hb⟩; replace hB := hB.trans (hb.mono hB.size); clear hb) | (go_at_call 18; with_reducible refine (HC.out _).mono ?_; rintro e wk ⟨rfl, rfl⟩) | (go_at_call 19; with_reducible refine (HD.out _).mono ?_; rintro e wk ⟨rfl, rfl⟩) | (go_at_call 15; with_reducible refine (HAw.out _ (HT.out.below hB) (HRg.out.below hB)).mono ?_; rintro e wk ⟨rfl, hb⟩; replace hB := hB.trans (hb.mono hB.size); clear hb))
  go_ret
  exact ⟨rfl, hB⟩
set_option maxRecDepth 100000 in
set_option maxHeartbeats 4000000 in
theorem raws_walk (w : World) (s : ByteArray) (hs : s.size ≤ maxLen) (hL : Laid w) :
    Calls Tryz.prog 7 #[.string s] w fun e w' => e = .returned (.bool true) ∧ Below w.heap.size w w' := by
  unfold maxLen at hs
  have hB := Below.refl w.heap.size w
  have HT := Lib.hid hL.1
  have HRg := Lib.hid hL.2
  have HAw := Lib.hid (fun w h g => vawake_any w h g)
  have hF := fun w => sfew_any s w hs
  by_cases hf : s.size ≤ 120
  · simp only [decide_eq_true hf] at hF
    have HF := Lib.hid hF
    have H1 := Lib.hid (fun w h g => veight_any s w (by omega) h g)
    have H2 := Lib.hid (fun w => rleight_any s w (by omega))
    have H3 := Lib.hid (fun w h g => vsixteen_any s w (by omega) h g)
    have H4 := Lib.hid (fun w => rlsixteen_any s w (by omega))
    generalize (eightT s.data.toList).1 = a at *
    generalize (eightT s.data.toList).2 = b at *
    generalize (sixteenT s.data.toList).1 = c at *
    generalize (sixteenT s.data.toList).2 = d at *
    clear hL hF hf
    go_enter Tryz.func7, Tryz.ntmps7
    go_wp2_with (first | (go_at_call 24; with_reducible refine (HF.out _).mono ?_; rintro e wk ⟨rfl, hb⟩; replace hB := hB.trans (hb.mono hB.size); clear hb) | (go_at_call 21; with_reducible refine (H1.out _ (HT.out.below hB) (HRg.out.below hB)).mono ?_; rintro e wk ⟨rfl, hb⟩; replace hB := hB.trans (hb.mono hB.size); clear hb) | (go_at_call 25; with_reducible refine (H2.out _).mono ?_; rintro e wk ⟨rfl, hb⟩; replace hB := hB.trans (hb.mono hB.size); clear hb) | (go_at_call 26; with_reducible refine (H3.out _ (HT.out.below hB) (HRg.out.below hB)).mono ?_; rintro e wk ⟨rfl, hb⟩; replace hB := hB.trans (hb.mono hB.size); clear hb) | (go_at_call 27; with_reducible refine (H4.out _).mono ?_; rintro e wk ⟨rfl, hb⟩; replace hB := hB.trans (hb.mono hB.size); clear hb) | (go_at_call 15; with_reducible refine (HAw.out _ (HT.out.below hB) (HRg.out.below hB)).mono ?_; rintro e wk ⟨rfl, hb⟩; replace hB := hB.trans (hb.mono hB.size); clear hb))
    go_ret
    exact ⟨rfl, hB⟩
  · simp only [decide_eq_false hf] at hF
    have HF := Lib.hid hF
    clear hL hF hf
    go_enter Tryz.func7, Tryz.ntmps7
    go_wp2_with (first | (go_at_call 24; with_reducible refine (HF.out _).mono ?_; rintro e wk ⟨rfl, hb⟩; replace hB := hB.trans (hb.mono hB.size); clear hb) | (go_at_call 15; with_reducible refine (HAw.out _ (HT.out.below hB) (HRg.out.below hB)).mono ?_; rintro e wk ⟨rfl, hb⟩; replace hB := hB.trans (hb.mono hB.size); clear hb))
    go_ret
    exact ⟨rfl, hB⟩
set_option maxRecDepth 100000 in
set_option maxHeartbeats 4000000 in
theorem bytes_walk (w : World) (a : Int) (_ : (Lit.int .i64 a).wf = true) (b : Int) (_ : (Lit.int .i64 b).wf = true) (hL : Laid w) :
    Calls Tryz.prog 10 #[.int .i64 a, .int .i64 b] w fun e w' => e = .returned (.bool true) ∧ Below w.heap.size w w' := by
  have hB := Below.refl w.heap.size w
  have HT := Lib.hid hL.1
  have HRg := Lib.hid hL.2
  have HAw := Lib.hid (fun w h g => vawake_any w h g)
  have H1 := Lib.hid (fun w => vOf_any a b w)
  have H2 := Lib.hid (fun w => rlraw_any a b w)
  have H3 := Lib.hid (fun w => vsplit_any a w)
  have H4 := Lib.hid (fun w => rlsplit_any a w)
  have H5 := Lib.hid (fun w => vjoin_any a b w)
  have H6 := Lib.hid (fun w => rljoin_any a b w)
  have H7 := Lib.hid (fun w => vscale_any a b w)
  have H8 := Lib.hid (fun w => rlscale_any a b w)
  generalize (rawT a b).1 = x1 at *
  generalize (rawT a b).2 = x2 at *
  generalize (splitT a).1 = x3 at *
  generalize (splitT a).2.1 = x4 at *
  generalize (splitT a).2.2 = x5 at *
  generalize (joinT a b).1 = x6 at *
  generalize (joinT a b).2 = x7 at *
  generalize (scaleT a b).1 = x8 at *
  generalize (scaleT a b).2 = x9 at *
  clear hL
  go_enter Tryz.func10, Tryz.ntmps10
  go_wp2_with (first | (go_at_call 41; with_reducible refine (H1.out _).mono ?_; rintro e wk ⟨rfl, hb⟩; replace hB := hB.trans (hb.mono hB.size); clear hb) | (go_at_call 42; with_reducible refine (H2.out _).mono ?_; rintro e wk ⟨rfl, rfl⟩) | (go_at_call 43; with_reducible refine (H3.out _).mono ?_; rintro e wk ⟨rfl, rfl⟩) | (go_at_call 44; with_reducible refine (H4.out _).mono ?_; rintro e wk ⟨rfl, rfl⟩) | (go_at_call 45; with_reducible refine (H5.out _).mono ?_; rintro e wk ⟨rfl, rfl⟩) | (go_at_call 46; with_reducible refine (H6.out _).mono ?_; rintro e wk ⟨rfl, rfl⟩) | (go_at_call 23; with_reducible refine (H7.out _).mono ?_; rintro e wk ⟨rfl, rfl⟩) | (go_at_call 47; with_reducible refine (H8.out _).mono ?_; rintro e wk ⟨rfl, rfl⟩) | (go_at_call 15; with_reducible refine (HAw.out _ (HT.out.below hB) (HRg.out.below hB)).mono ?_; rintro e wk ⟨rfl, hb⟩; replace hB := hB.trans (hb.mono hB.size); clear hb))
  go_ret
  exact ⟨rfl, hB⟩
end Go.Proofs.YtjbhfkcjmjhhdaaGreatDoor

namespace Go.Proofs.YtjbhfkcjmjhhdaaGreatDoor.levelBytesP
open Go.ChangeShapes Go.ChangeMaps Go.WideShapes Go.ChangeAt Go.RowKit

set_option maxRecDepth 100000 in
theorem lifted (os : Os) (started : os.Started) (H : Type) (enc : TypeId × Value → H) :
    ReturnsInHanded {} Tryz.checked os 10 .any (fun w args => (Rows.levelBytesSpec.pre enc Tryz.prog Tryz.f10 [] false w args ∧ laidMetH Tryz.prog Rows.levelBytesRow.laid w) ∧ sizedMet enc Tryz.prog Tryz.f10 (OpenSpec.ofChange Rows.levelBytesSpec) false w args)
      (Rows.levelBytesSpec.post enc Tryz.prog Tryz.f10 false true false false) := by
  refine returnsInHanded_of_change_and (C := Tryz.checked) (X := fun w _ => laidMetH Tryz.prog Rows.levelBytesRow.laid w) (fun _ _ _ hh h => h.of_heap hh) own_ started (by kernel_rfl) Tryz.func10
    (ChangeSpec.witness_at (enc := enc) (C := Tryz.checked) (os := os) (X := fun w _ => laidMetH Tryz.prog Rows.levelBytesRow.laid w) false (laidWorld os) #[.int .i64 0, .int .i64 0] 8 rfl (by kernel_rfl) (by kernel_rfl) (by kernel_rfl) (by kernel_rfl) (by kernel_rfl) (laid_met os _)) ?_
  intro W base args ds gs before hval0 hW _ _ hL _
  have hval : ∀ (j : Nat) t v, Tryz.f10.params[j]? = some t → args[j]? = some v → Value.okWide Tryz.prog W .any base t v := hval0
  have hW' := hW
  obtain ⟨p, q, hA0, hV, rfl, hfz, hnd⟩ := hW
  have hA : DataW.TrodAll enc Tryz.prog W 0 (fun _ => true) true Tryz.f10.params.toList args.toList ds p := hA0
  rw [Tryz.params10] at hA hval
  obtain ⟨v0, vs0, d0, ds0, p0, q0, hargs, rfl, rfl, h0, r0⟩ := trodAll_cons hA
  obtain ⟨v1, vs1, d1, ds1, p1, q1, rfl, rfl, rfl, h1, r1⟩ := trodAll_cons r0
  obtain ⟨rfl, rfl, rfl⟩ := trodAll_nil r1
  obtain rfl : args = #[v0, v1] := by cases args; simp_all
  obtain ⟨rfl, rfl⟩ := trodVars_none hV
  obtain ⟨x0, rfl, rfl, rfl, w0⟩ := open_int Tryz.underlying3 (hval 0 3 v0 rfl rfl) h0
  obtain ⟨x1, rfl, rfl, rfl, w1⟩ := open_int Tryz.underlying3 (hval 1 3 v1 rfl rfl) h1
  clear hA0 hval0
  simp only [List.append_nil] at hW'
  refine (bytes_walk W x0 w0 x1 w1 (laid_of hL)).mono fun e W' ⟨he, bel⟩ => ?_
  subst he
  exact ⟨_, rfl, _, _, _, [], _, [], hW', trodAll_mk1 (shut_bool Tryz.underlying4 _), (trodAll_cons_mk (shut_int Tryz.underlying3 w0) (trodAll_cons_mk (shut_int Tryz.underlying3 w1) trodAll_mk0)), rfl, bel.frame _, fun h => by cases h⟩

theorem over : Rows.levelBytesRow.holds Tryz.pinned (OpenSpec.ofChange Rows.levelBytesSpec) :=
  OpenClaim.holds_of_wide 10 Tryz.f10 rfl rfl rfl rfl rfl rfl rfl ⟨rfl, rfl, rfl, rfl, rfl⟩ rfl rfl rfl rfl rfl (by kernel_rfl) Tryz.func10 (by kernel_rfl)
    (of_decide_eq_true (by kernel_rfl)) (by unfold Func.isWrapper; rw [if_neg (of_decide_eq_false (by kernel_rfl))]; exact ⟨rfl, rfl⟩)
    (fun os started H enc _ => lifted os started H enc)

theorem noStandIn : ∀ t ∈ Tryz.f10.params.toList, Tryz.prog.wantsStandIn t = false := by
  rw [Tryz.params10]
  intro t ht
  simp only [List.mem_cons, List.not_mem_nil, or_false] at ht
  rcases ht with rfl | rfl <;> kernel_rfl

theorem proved : Rows.LevelBytesCardSaid :=
  Claim7.holds_tied_plain_at .later [] [.data, .data, .data, .data, .sentinel, .sentinel, .pinned] true (true, "a3705f77de91121ad3690cd473750cf63f56c5fd481251e259dd121ea00c8e18") true
    over (fun _ h => by cases h) (by kernel_rfl) (fun _ h => by cases h) levelBytes_row_tie rfl ⟨rfl, rfl⟩ (by kernel_rfl) rfl
    (fun f fn hf hfn => by
      obtain rfl : f = 10 := Option.some.inj ((show Tryz.prog.funcNamed "luminaire/luminairelaw04.LevelBytes" = some 10 by kernel_rfl).symm.trans hf) |>.symm
      obtain rfl : fn = Tryz.f10 := (Option.some.inj (Tryz.func10.symm.trans hfn)).symm
      exact ⟨by kernel_rfl, fun j t ht => noStandIn t (Array.mem_toList_iff.2 (Array.mem_of_getElem? ht))⟩)
    (by kernel_rfl)
#print axioms proved
end Go.Proofs.YtjbhfkcjmjhhdaaGreatDoor.levelBytesP
