/- IntegerDivides: for every input the law returns true, and its arguments read behind the call as they read before. The package variables that the row lists hold what the program's text lays. -/
import Derived.Test.YtgnggipjebemeaaGreatDoorGLaw
import Derived.Test.YtgnggipjebemeaaGreatDoorCards
import Derived.Test.YtgnggipjebemeaaGreatDoorTie
import Derived.SevenTiedAt
namespace Go.Proofs.YtgnggipjebemeaaGreatDoor
open Go.RowKit

theorem gcd_fits {x y : Int} (hx : Fit x) (hy : Fit y) : Fit ((Nat.gcd x.natAbs y.natAbs : Nat) : Int) := by
  unfold Fit at *
  rw [Int.natAbs_natCast]
  generalize (10 : Nat) ^ 4096 = A at *
  by_cases h : x.natAbs = 0
  · rw [h, Nat.gcd_zero_left]; exact hy
  · have := Nat.gcd_le_left (m := x.natAbs) y.natAbs (by omega); omega
set_option maxRecDepth 100000 in
set_option maxHeartbeats 4000000 in
theorem divides_walk (w : World) (a : ByteArray) (ha : a.size ≤ maxLen) (b : ByteArray) (hb : b.size ≤ maxLen) (hL : Laid w) :
    Calls Tryz.prog 3 #[.string a, .string b] w fun e w' => e = .returned (.bool true) ∧ Below w.heap.size w w' := by
  unfold maxLen at ha hb
  have HT := Lib.hid hL.1
  have hB0 := (Below.refl w.heap.size w).alloc (Nat.le_refl _) (.cells #[.string a, .string b] 22)
  have hF := few_any (some ⟨w.heap.size, 0, none⟩) 2 2 [a, b] _ (Ss.fresh w [a, b] 22 #[.string a, .string b] rfl) (by omega) (by intro s hs; simp at hs; rcases hs with rfl | rfl <;> omega)
  have HAw := Lib.hid (fun w h => awake_any w h)
  clear hL
  cases hf : fewT [a, b]
  · rw [hf] at hF
    have HF := Lib.hid hF
    clear hF hf
    go_enter Tryz.func3, Tryz.ntmps3
    go_wp2_with (first | (go_at_call 10; with_reducible refine HF.out.mono ?_; rintro e wk ⟨rfl, hb⟩; have hB := hB0.trans (hb.mono hB0.size); clear hb) | (go_at_call 11; with_reducible refine (HAw.out _ (HT.out.below hB)).mono ?_; rintro e wk ⟨rfl, hb⟩; replace hB := hB.trans (hb.mono hB.size); clear hb))
    go_ret
    exact ⟨rfl, hB⟩
  · have hsz := few_sizes hf
    have ha5 := hsz a (by simp)
    have hb5 := hsz b (by simp)
    rw [hf] at hF
    have HF := Lib.hid hF
    have h1 := fun w h => mul_any a b w (by omega) (by omega) h
    have h2 := fun w => rmul_any a b w (by omega) (by omega)
    have h3 := fun w h => quo_any a b w (by omega) (by omega) h
    have h4 := fun w => rquo_any a b w (by omega) (by omega)
    have h5 := fun w h => rem_any a b w (by omega) (by omega) h
    have h6 := fun w => rrem_any a b w (by omega) (by omega)
    have h7 := fun w h => gcd_any a b w (by omega) (by omega) h
    have h8 := fun w => rboth_any a b w (by omega) (by omega)
    generalize opT (fun x y : Int => x * y) a.data.toList b.data.toList = M at *
    generalize divT (fun x y : Int => x.fdiv y) a.data.toList b.data.toList = Q at *
    generalize divT (fun x y : Int => x.fmod y) a.data.toList b.data.toList = R at *
    have H1 := Lib.hid h1
    have H2 := Lib.hid h2
    have H3 := Lib.hid h3
    have H4 := Lib.hid h4
    have H5 := Lib.hid h5
    have H6 := Lib.hid h6
    clear hF hf hsz h1 h2 h3 h4 h5 h6
    by_cases hc : chk2 a.data.toList b.data.toList = 0
    · obtain ⟨c1, c2⟩ := chk2_zero.1 hc
      obtain ⟨hax, hfx⟩ := valI_ok c1
      obtain ⟨hby, hfy⟩ := valI_ok c2
      rw [show opT (fun x y : Int => (Nat.gcd x.natAbs y.natAbs : Int)) a.data.toList b.data.toList = (Lib.itoa ((Nat.gcd (valI a.data.toList).natAbs (valI b.data.toList).natAbs : Nat) : Int), 0) by
        unfold opT
        rw [if_neg (by simpa using hc), longT_fit (gcd_fits hfx hfy)]] at h7
      rw [hc] at h8
      have h9 := fun w => rcommon_any a b _ _ w hax hby (by omega) (by omega)
      generalize (⟨(Lib.itoa ((Nat.gcd (valI a.data.toList).natAbs (valI b.data.toList).natAbs : Nat) : Int)).toArray⟩ : ByteArray) = G at *
      have H7 := Lib.hid h7
      have H8 := Lib.hid h8
      have H9 := Lib.hid h9
      clear h7 h8 h9 hax hby hfx hfy c1 c2 hc
      go_enter Tryz.func3, Tryz.ntmps3
      go_wp2_with (first | (go_at_call 10; with_reducible refine HF.out.mono ?_; rintro e wk ⟨rfl, hb⟩; have hB := hB0.trans (hb.mono hB0.size); clear hb) | (go_at_call 11; with_reducible refine (HAw.out _ (HT.out.below hB)).mono ?_; rintro e wk ⟨rfl, hb⟩; replace hB := hB.trans (hb.mono hB.size); clear hb) | (go_at_call 12; with_reducible refine (H1.out _ (HT.out.below hB)).mono ?_; rintro e wk ⟨rfl, hb⟩; replace hB := hB.trans (hb.mono hB.size); clear hb) | (go_at_call 13; with_reducible refine (H2.out _).mono ?_; rintro e wk ⟨rfl, hb⟩; replace hB := hB.trans (hb.mono hB.size); clear hb) | (go_at_call 14; with_reducible refine (H3.out _ (HT.out.below hB)).mono ?_; rintro e wk ⟨rfl, hb⟩; replace hB := hB.trans (hb.mono hB.size); clear hb) | (go_at_call 15; with_reducible refine (H4.out _).mono ?_; rintro e wk ⟨rfl, hb⟩; replace hB := hB.trans (hb.mono hB.size); clear hb) | (go_at_call 16; with_reducible refine (H5.out _ (HT.out.below hB)).mono ?_; rintro e wk ⟨rfl, hb⟩; replace hB := hB.trans (hb.mono hB.size); clear hb) | (go_at_call 17; with_reducible refine (H6.out _).mono ?_; rintro e wk ⟨rfl, hb⟩; replace hB := hB.trans (hb.mono hB.size); clear hb) | (go_at_call 18; with_reducible refine (H7.out _ (HT.out.below hB)).mono ?_; rintro e wk ⟨rfl, hb⟩; replace hB := hB.trans (hb.mono hB.size); clear hb) | (go_at_call 19; with_reducible refine (H8.out _).mono ?_; rintro e wk ⟨rfl, hb⟩; replace hB := hB.trans (hb.mono hB.size); clear hb) | (go_at_call 20; with_reducible refine (H9.out _).mono ?_; rintro e wk ⟨rfl, hb⟩; replace hB := hB.trans (hb.mono hB.size); clear hb))
      go_ret
      exact ⟨rfl, hB⟩
    · rw [show opT (fun x y : Int => (Nat.gcd x.natAbs y.natAbs : Int)) a.data.toList b.data.toList = ([], chk2 a.data.toList b.data.toList) by unfold opT; rw [if_pos hc]] at h7
      generalize chk2 a.data.toList b.data.toList = k at *
      have g1 : (k == 0) = false := by simpa using hc
      have g2 : (k != 0) = true := by simpa using hc
      have H7 := Lib.hid h7
      have H8 := Lib.hid h8
      clear h7 h8
      go_enter Tryz.func3, Tryz.ntmps3
      go_wp2_with (first | (go_at_call 10; with_reducible refine HF.out.mono ?_; rintro e wk ⟨rfl, hb⟩; have hB := hB0.trans (hb.mono hB0.size); clear hb) | (go_at_call 11; with_reducible refine (HAw.out _ (HT.out.below hB)).mono ?_; rintro e wk ⟨rfl, hb⟩; replace hB := hB.trans (hb.mono hB.size); clear hb) | (go_at_call 12; with_reducible refine (H1.out _ (HT.out.below hB)).mono ?_; rintro e wk ⟨rfl, hb⟩; replace hB := hB.trans (hb.mono hB.size); clear hb) | (go_at_call 13; with_reducible refine (H2.out _).mono ?_; rintro e wk ⟨rfl, hb⟩; replace hB := hB.trans (hb.mono hB.size); clear hb) | (go_at_call 14; with_reducible refine (H3.out _ (HT.out.below hB)).mono ?_; rintro e wk ⟨rfl, hb⟩; replace hB := hB.trans (hb.mono hB.size); clear hb) | (go_at_call 15; with_reducible refine (H4.out _).mono ?_; rintro e wk ⟨rfl, hb⟩; replace hB := hB.trans (hb.mono hB.size); clear hb) | (go_at_call 16; with_reducible refine (H5.out _ (HT.out.below hB)).mono ?_; rintro e wk ⟨rfl, hb⟩; replace hB := hB.trans (hb.mono hB.size); clear hb) | (go_at_call 17; with_reducible refine (H6.out _).mono ?_; rintro e wk ⟨rfl, hb⟩; replace hB := hB.trans (hb.mono hB.size); clear hb) | (go_at_call 18; with_reducible refine (H7.out _ (HT.out.below hB)).mono ?_; rintro e wk ⟨rfl, hb⟩; replace hB := hB.trans (hb.mono hB.size); clear hb) | (go_at_call 19; with_reducible refine (H8.out _).mono ?_; rintro e wk ⟨rfl, hb⟩; replace hB := hB.trans (hb.mono hB.size); clear hb))
      go_ret
      exact ⟨rfl, hB⟩
end Go.Proofs.YtgnggipjebemeaaGreatDoor

namespace Go.Proofs.YtgnggipjebemeaaGreatDoor.integerDividesP
open Go.ChangeShapes Go.ChangeMaps Go.WideShapes Go.ChangeAt Go.RowKit

set_option maxRecDepth 100000 in
theorem lifted (os : Os) (started : os.Started) (H : Type) (enc : TypeId × Value → H) :
    ReturnsInHanded {} Tryz.checked os 3 .any (fun w args => (Rows.integerDividesSpec.pre enc Tryz.prog Tryz.f3 [] false w args ∧ laidMetH Tryz.prog Rows.integerDividesRow.laid w) ∧ sizedMet enc Tryz.prog Tryz.f3 (OpenSpec.ofChange Rows.integerDividesSpec) false w args)
      (Rows.integerDividesSpec.post enc Tryz.prog Tryz.f3 false true false false) := by
  refine returnsInHanded_of_change_and (C := Tryz.checked) (X := fun w _ => laidMetH Tryz.prog Rows.integerDividesRow.laid w) (fun _ _ _ hh h => h.of_heap hh) own_ started (by kernel_rfl) Tryz.func3
    (ChangeSpec.witness_at (enc := enc) (C := Tryz.checked) (os := os) (X := fun w _ => laidMetH Tryz.prog Rows.integerDividesRow.laid w) false (laidWorld os) #[.string ⟨#[]⟩, .string ⟨#[]⟩] 8 rfl (by kernel_rfl) (by kernel_rfl) (by kernel_rfl) (by kernel_rfl) (by kernel_rfl) (laid_met os _)) ?_
  intro W base args ds gs before hval0 hW _ _ hL _
  have hval : ∀ (j : Nat) t v, Tryz.f3.params[j]? = some t → args[j]? = some v → Value.okWide Tryz.prog W .any base t v := hval0
  have hW' := hW
  obtain ⟨p, q, hA0, hV, rfl, hfz, hnd⟩ := hW
  have hA : DataW.TrodAll enc Tryz.prog W 0 (fun _ => true) true Tryz.f3.params.toList args.toList ds p := hA0
  rw [Tryz.params3] at hA hval
  obtain ⟨v0, vs0, d0, ds0, p0, q0, hargs, rfl, rfl, h0, r0⟩ := trodAll_cons hA
  obtain ⟨v1, vs1, d1, ds1, p1, q1, rfl, rfl, rfl, h1, r1⟩ := trodAll_cons r0
  obtain ⟨rfl, rfl, rfl⟩ := trodAll_nil r1
  obtain rfl : args = #[v0, v1] := by cases args; simp_all
  obtain ⟨rfl, rfl⟩ := trodVars_none hV
  obtain ⟨x0, rfl, rfl, rfl, w0⟩ := open_string Tryz.underlying22 (hval 0 22 v0 rfl rfl) h0
  obtain ⟨x1, rfl, rfl, rfl, w1⟩ := open_string Tryz.underlying22 (hval 1 22 v1 rfl rfl) h1
  clear hA0 hval0
  simp only [List.append_nil] at hW'
  refine (divides_walk W x0 w0 x1 w1 (laid_of hL)).mono fun e W' ⟨he, bel⟩ => ?_
  subst he
  exact ⟨_, rfl, _, _, _, [], _, [], hW', trodAll_mk1 (shut_bool Tryz.underlying4 _), (trodAll_cons_mk (shut_string Tryz.underlying22 w0) (trodAll_cons_mk (shut_string Tryz.underlying22 w1) trodAll_mk0)), rfl, bel.frame _, fun h => by cases h⟩

theorem over : Rows.integerDividesRow.holds Tryz.pinned (OpenSpec.ofChange Rows.integerDividesSpec) :=
  OpenClaim.holds_of_wide 3 Tryz.f3 rfl rfl rfl rfl rfl rfl rfl ⟨rfl, rfl, rfl, rfl, rfl⟩ rfl rfl rfl rfl rfl (by kernel_rfl) Tryz.func3 (by kernel_rfl)
    (of_decide_eq_true (by kernel_rfl)) (by unfold Func.isWrapper; rw [if_neg (of_decide_eq_false (by kernel_rfl))]; exact ⟨rfl, rfl⟩)
    (fun os started H enc _ => lifted os started H enc)

theorem noStandIn : ∀ t ∈ Tryz.f3.params.toList, Tryz.prog.wantsStandIn t = false := by
  rw [Tryz.params3]
  intro t ht
  simp only [List.mem_cons, List.not_mem_nil, or_false] at ht
  rcases ht with rfl | rfl <;> kernel_rfl

theorem proved : Rows.IntegerDividesCardSaid :=
  Claim7.holds_tied_plain_at .later [] [.data, .data, .data, .data, .sentinel, .sentinel, .pinned] true (true, "da94b0f823b9b65d38769238b5dbe6098aa8685618d44faf74c6bdbf67105759") true
    over (fun _ h => by cases h) (by kernel_rfl) (fun _ h => by cases h) integerDivides_row_tie rfl ⟨rfl, rfl⟩ (by kernel_rfl) rfl
    (fun f fn hf hfn => by
      obtain rfl : f = 3 := Option.some.inj ((show Tryz.prog.funcNamed "luminaire/luminairelaw01.IntegerDivides" = some 3 by kernel_rfl).symm.trans hf) |>.symm
      obtain rfl : fn = Tryz.f3 := (Option.some.inj (Tryz.func3.symm.trans hfn)).symm
      exact ⟨by kernel_rfl, fun j t ht => noStandIn t (Array.mem_toList_iff.2 (Array.mem_of_getElem? ht))⟩)
    (by kernel_rfl)
#print axioms proved
end Go.Proofs.YtgnggipjebemeaaGreatDoor.integerDividesP
