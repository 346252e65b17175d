/- ProfileLevels: for every input the law returns true, and its arguments read behind the call as they read before. The package variables that the row lists hold what the program's text lays. -/
import Derived.Test.YtpinmgoeapakdaaGreatDoorGProE
import Derived.Test.YtpinmgoeapakdaaGreatDoorGProG
import Derived.Test.YtpinmgoeapakdaaGreatDoorGLaw
import Derived.Test.YtpinmgoeapakdaaGreatDoorFProfileLevels
import Derived.Test.YtpinmgoeapakdaaGreatDoorCards
import Derived.Test.YtpinmgoeapakdaaGreatDoorTie
import Derived.SevenTiedAt
import Derived.SizedLaws
namespace Go.Proofs.YtpinmgoeapakdaaGreatDoor
open Go.RowKit

theorem inF_one' {w : World} {b : Nat} {f : FC} {wl : List Slt} (h : shF.In w (some ⟨b, 0, none⟩) 1 [f]) (hw : FW w f wl) : InF w (some ⟨b, 0, none⟩) 1 [f] [f.fea wl] :=
  ⟨h, rfl, fun i h1 h2 => by
    obtain rfl : i = 0 := by simp at h1; omega
    exact ⟨rfl, hw.1⟩⟩
theorem bytesV_few (f : Fea) (raw : Int) : (bytesV f raw).length ≤ 2 := by
  unfold bytesV
  by_cases h : bytesE f raw ≠ 0
  · rw [if_pos h]; exact Nat.zero_le _
  · rw [if_neg h]
    by_cases h8 : f.bits = 8
    · rw [if_pos h8]; exact Nat.le_succ 1
    · rw [if_neg h8]; exact Nat.le_refl 2
set_option maxRecDepth 100000 in
set_option maxHeartbeats 8000000 in
theorem plevels_walk (w : World) (f : FC) (wl : List Slt) (A' : Option Addr) (n' c' : Nat) (H : List Hd) (L : List (List PT)) (raw : Int) (hw : FW w f wl) (hl : InN w A' n' H L) (hm : ∀ h ∈ H, h.n ≤ 9223372036854775807) (hcp : ∀ h ∈ H, h.n ≤ h.c ∧ h.c ≤ 9223372036854775807) (hn : n' ≤ 9223372036854775807) (ht : Tab w) (hr : Rng w) :
    Calls Tryz.prog 7 #[f.val, .slice A' n' c', .int .i64 raw] w fun e w' => e = .returned (.bool true) ∧ Below w.heap.size w w' := by
  have HAw := Lib.hid (fun w ht hr => pawake_any w ht hr)
  have HO0 := Lib.hid (fun w => lone_any f w)
  have HF0 := Lib.hid (fun b w (hx : shF.In w (some ⟨b, 0, none⟩) 1 [f]) (hw : FW w f wl) hl => lfew_any ⟨#[]⟩ 0 0 (some ⟨b, 0, none⟩) 1 1 [f] [f.fea wl] A' n' c' H L w (inF_one' hx hw) (by decide) hl hn)
  have HP0 := Lib.hid (fun w hw hl => pLevel_any f wl A' n' c' H L raw w hw hl hm hn hcp)
  have HR0 := Lib.hid (fun w hw hl => rLevel_any f wl A' n' c' H L raw w hw hl hm hn)
  have HBp0 := Lib.hid (fun w hw => pbytes_any f wl raw w hw)
  have HBr0 := Lib.hid (fun w hw => rbytes_any f wl raw w hw)
  have hfw := bytesV_few (f.fea wl) raw
  generalize levelV (f.fea wl) L raw = V at *
  generalize levelE (f.fea wl) L raw = E at *
  generalize bytesV (f.fea wl) raw = BV at *
  generalize bytesE (f.fea wl) raw = BE at *
  generalize (fewP ⟨#[]⟩ [f.fea wl] && fewAll L) = fw at *
  have HEq := Lib.hid (fun A n c B n' c' w hl hm => (show Calls Tryz.prog 29 #[.slice A n c, .slice B n' c'] w fun e w' => e = .returned (.bool true) ∧ Below w.heap.size w w' by
    have := peqI_any A n c BV B n' c' BV w hl hm (by rw [hl.1]; omega) (by rw [hm.1]; omega)
    rw [decide_eq_true rfl] at this
    exact this))
  clear hfw
  obtain ⟨at_, bits, co, fi, cu, ho, lo, hi, sn, A, n, c⟩ := f
  have HO := Lib.hid (show ∀ w', Calls Tryz.prog 12 #[.agg #[.int .i64 at_, .int .i64 bits, .int .i64 co, .int .i64 fi, .int .i64 cu, .int .i64 ho, .int .i64 lo, .int .i64 hi, .bool sn, .slice A n c]] w' fun e w'' => ∃ b, e = .returned (.agg #[.string ⟨#[]⟩, .int .i64 0, .int .i64 0, .slice (some ⟨b, 0, none⟩) 1 1]) ∧ shF.In w'' (some ⟨b, 0, none⟩) 1 [⟨at_, bits, co, fi, cu, ho, lo, hi, sn, A, n, c⟩] ∧ Below w'.heap.size w' w'' from HO0.out)
  show Calls Tryz.prog 7 #[.agg #[.int .i64 at_, .int .i64 bits, .int .i64 co, .int .i64 fi, .int .i64 cu, .int .i64 ho, .int .i64 lo, .int .i64 hi, .bool sn, .slice A n c], .slice A' n' c', .int .i64 raw] w fun e w' => e = .returned (.bool true) ∧ Below w.heap.size w w'
  have HP := Lib.hid (show ∀ w', FW w' ⟨at_, bits, co, fi, cu, ho, lo, hi, sn, A, n, c⟩ wl → InN w' A' n' H L → Calls Tryz.prog 25 #[.agg #[.int .i64 at_, .int .i64 bits, .int .i64 co, .int .i64 fi, .int .i64 cu, .int .i64 ho, .int .i64 lo, .int .i64 hi, .bool sn, .slice A n c], .slice A' n' c', .int .i64 raw] w' fun e w'' => e = .returned (.tuple #[.int .i64 V, .int .i64 E]) ∧ Below w'.heap.size w' w'' from HP0.out)
  have HR := Lib.hid (show ∀ w', FW w' ⟨at_, bits, co, fi, cu, ho, lo, hi, sn, A, n, c⟩ wl → InN w' A' n' H L → Calls Tryz.prog 26 #[.agg #[.int .i64 at_, .int .i64 bits, .int .i64 co, .int .i64 fi, .int .i64 cu, .int .i64 ho, .int .i64 lo, .int .i64 hi, .bool sn, .slice A n c], .slice A' n' c', .int .i64 raw] w' fun e w'' => e = .returned (.tuple #[.int .i64 V, .int .i64 E]) ∧ Below w'.heap.size w' w'' from HR0.out)
  have HBp := Lib.hid (show ∀ w', FW w' ⟨at_, bits, co, fi, cu, ho, lo, hi, sn, A, n, c⟩ wl → Calls Tryz.prog 27 #[.agg #[.int .i64 at_, .int .i64 bits, .int .i64 co, .int .i64 fi, .int .i64 cu, .int .i64 ho, .int .i64 lo, .int .i64 hi, .bool sn, .slice A n c], .int .i64 raw] w' fun e w'' => ∃ A2 n2 c2, e = .returned (.tuple #[.slice A2 n2 c2, .int .i64 BE]) ∧ Is w'' A2 n2 BV ∧ Below w'.heap.size w' w'' from HBp0.out)
  have HBr := Lib.hid (show ∀ w', FW w' ⟨at_, bits, co, fi, cu, ho, lo, hi, sn, A, n, c⟩ wl → Calls Tryz.prog 28 #[.agg #[.int .i64 at_, .int .i64 bits, .int .i64 co, .int .i64 fi, .int .i64 cu, .int .i64 ho, .int .i64 lo, .int .i64 hi, .bool sn, .slice A n c], .int .i64 raw] w' fun e w'' => ∃ A2 n2 c2, e = .returned (.tuple #[.slice A2 n2 c2, .int .i64 BE]) ∧ Is w'' A2 n2 BV ∧ Below w'.heap.size w' w'' from HBr0.out)
  have HF := Lib.hid HF0.out
  obtain ⟨W, hW⟩ : ∃ W, W = w.alloc (.cells #[.int .i64 at_, .int .i64 bits, .int .i64 co, .int .i64 fi, .int .i64 cu, .int .i64 ho, .int .i64 lo, .int .i64 hi, .bool sn, .slice A n c] 24) := ⟨_, rfl⟩
  obtain ⟨hB0, hK⟩ := fbox at_ bits co fi cu ho lo hi sn A n c w W hW
  have HK := Lib.hid hK
  have HW := Lib.hid hW
  have HB0 := Lib.hid hB0
  have hB := Below.refl W.heap.size W
  obtain ⟨c0, c1, c2, c3, c4, c5, c6, c7, c8, c9⟩ := hK W hB
  clear hW hB0 hK
  have HL := Lib.hid (hw.below HB0.out)
  have HL2 := Lib.hid (hl.below HB0.out)
  have HT := Lib.hid (ht.below HB0.out)
  have HRg := Lib.hid (hr.below HB0.out)
  clear hw hl ht hr hm hcp HO0 HF0 HP0 HR0 HBp0 HBr0
  cases fw with
  | false =>
    go_enter Tryz.func7, Tryz.ntmps7
    go_wp2_with fail
    rw [← HW.out]
    refine (HO.out _).mono ?_
    rintro e wk ⟨b, rfl, hi1, hb⟩
    replace hB := hB.trans (hb.mono hB.size)
    clear hb
    go_wp2_with fail
    refine (HF.out _ _ hi1 (HL.out.below hB) (HL2.out.below hB)).mono ?_
    rintro e wk ⟨rfl, hb⟩
    replace hB := hB.trans (hb.mono hB.size)
    clear hb hi1
    obtain ⟨c0, c1, c2, c3, c4, c5, c6, c7, c8, c9⟩ := HK.out _ hB
    go_wp2_with fail
    refine (HAw.out _ (HT.out.below hB) (HRg.out.below hB)).mono ?_
    rintro e wk ⟨rfl, hb⟩
    replace hB := hB.trans (hb.mono hB.size)
    clear hb
    obtain ⟨c0, c1, c2, c3, c4, c5, c6, c7, c8, c9⟩ := HK.out _ hB
    go_wp2_with fail
    go_ret
    exact ⟨rfl, HB0.out.trans (hB.mono HB0.out.size)⟩
  | true =>
    go_enter Tryz.func7, Tryz.ntmps7
    go_wp2_with fail
    rw [← HW.out]
    refine (HO.out _).mono ?_
    rintro e wk ⟨b, rfl, hi1, hb⟩
    replace hB := hB.trans (hb.mono hB.size)
    clear hb
    go_wp2_with fail
    refine (HF.out _ _ hi1 (HL.out.below hB) (HL2.out.below hB)).mono ?_
    rintro e wk ⟨rfl, hb⟩
    replace hB := hB.trans (hb.mono hB.size)
    clear hb hi1
    obtain ⟨c0, c1, c2, c3, c4, c5, c6, c7, c8, c9⟩ := HK.out _ hB
    go_wp2_with fail
    refine (HP.out _ (HL.out.below hB) (HL2.out.below hB)).mono ?_
    rintro e wk ⟨rfl, hb⟩
    replace hB := hB.trans (hb.mono hB.size)
    clear hb
    obtain ⟨c0, c1, c2, c3, c4, c5, c6, c7, c8, c9⟩ := HK.out _ hB
    go_wp2_with fail
    refine (HR.out _ (HL.out.below hB) (HL2.out.below hB)).mono ?_
    rintro e wk ⟨rfl, hb⟩
    replace hB := hB.trans (hb.mono hB.size)
    clear hb
    obtain ⟨c0, c1, c2, c3, c4, c5, c6, c7, c8, c9⟩ := HK.out _ hB
    go_wp2_with fail
    refine (HBp.out _ (HL.out.below hB)).mono ?_
    rintro e wk ⟨A2, n2, d2, rfl, hi1, hb⟩
    replace hB := hB.trans (hb.mono hB.size)
    clear hb
    obtain ⟨c0, c1, c2, c3, c4, c5, c6, c7, c8, c9⟩ := HK.out _ hB
    go_wp2_with fail
    refine (HBr.out _ (HL.out.below hB)).mono ?_
    rintro e wk ⟨A3, n3, d3, rfl, hi2, hb⟩
    replace hB := hB.trans (hb.mono hB.size)
    replace hi1 := hi1.below hb
    clear hb
    obtain ⟨c0, c1, c2, c3, c4, c5, c6, c7, c8, c9⟩ := HK.out _ hB
    go_wp2_with fail
    refine (HEq.out _ _ _ _ _ _ _ hi1 hi2).mono ?_
    rintro e wk ⟨rfl, hb⟩
    replace hB := hB.trans (hb.mono hB.size)
    clear hb hi1 hi2
    go_wp2_with fail
    refine (HAw.out _ (HT.out.below hB) (HRg.out.below hB)).mono ?_
    rintro e wk ⟨rfl, hb⟩
    replace hB := hB.trans (hb.mono hB.size)
    clear hb
    go_wp2_with fail
    go_ret
    exact ⟨rfl, HB0.out.trans (hB.mono HB0.out.size)⟩
theorem profile_levels (w : World) (g : FC) (hg : g.good w) (A : Option Addr) (n c : Nat) (H : List Hd) (hl : shH.In w A n H) (hgs : ∀ g ∈ H, (∃ l, shP.In w g.A g.n l) ∧ g.n ≤ maxLen ∧ g.n ≤ g.c ∧ g.c ≤ maxLen) (hn : n ≤ maxLen) (raw : Int) (_hs : (Lit.int .i64 raw).wf = true) (hL : Laid w) :
    Calls Tryz.prog 7 #[.agg (shF.cs g).toArray, .slice A n c, .int .i64 raw] w fun e w' => e = .returned (.bool true) ∧ Below w.heap.size w w' := by
  obtain ⟨⟨wl, hw⟩, _⟩ := hg
  obtain ⟨L, h⟩ := curves_of hl (fun g hg => ⟨(hgs g hg).1, (hgs g hg).2.1⟩)
  exact plevels_walk w g wl A n c H L raw hw h (fun g hh => by have := (hgs g hh).2.1; unfold maxLen at this; omega) (fun g hh => by have := (hgs g hh).2.2; unfold maxLen at this; omega) (by unfold maxLen at hn; omega) hL.1 hL.2
end Go.Proofs.YtpinmgoeapakdaaGreatDoor

namespace Go.Proofs.YtpinmgoeapakdaaGreatDoor.profileLevelsP
open Go.ChangeShapes Go.ChangeMaps Go.WideShapes Go.ChangeAt Go.RowKit

set_option maxRecDepth 100000 in
theorem lifted (os : Os) (started : os.Started) (H : Type) (enc : TypeId × Value → H) :
    ReturnsInHanded {} Tryz.checked os 7 .any (fun w args => (Rows.profileLevelsSpec.pre enc Tryz.prog Tryz.f7 [] false w args ∧ laidMetH Tryz.prog Rows.profileLevelsRow.laid w) ∧ sizedMet enc Tryz.prog Tryz.f7 (OpenSpec.ofChange Rows.profileLevelsSpec) false w args)
      (Rows.profileLevelsSpec.post enc Tryz.prog Tryz.f7 false true false false) := by
  refine returnsInHanded_of_change_and (C := Tryz.checked) (X := fun w _ => laidMetH Tryz.prog Rows.profileLevelsRow.laid w) (fun _ _ _ hh h => h.of_heap hh) own_ started (by kernel_rfl) Tryz.func7
    (ChangeSpec.witness_at (enc := enc) (C := Tryz.checked) (os := os) (X := fun w _ => laidMetH Tryz.prog Rows.profileLevelsRow.laid w) false (laidWorld os) #[.agg #[.int .i64 0, .int .i64 0, .int .i64 0, .int .i64 0, .int .i64 0, .int .i64 0, .int .i64 0, .int .i64 0, .bool false, .slice none 0 0], .slice none 0 0, .int .i64 0] 8 rfl (by kernel_rfl) (by kernel_rfl) (by kernel_rfl) (by kernel_rfl) (by kernel_rfl) (laid_met os _)) ?_
  intro W base args ds gs before hval0 hW _ hWt hL _
  have hval : ∀ (j : Nat) t v, Tryz.f7.params[j]? = some t → args[j]? = some v → Value.okWide Tryz.prog W .any base t v := hval0
  have hW' := hW
  obtain ⟨p, q, hA0, hV, rfl, hfz, hnd⟩ := hW
  have hA : DataW.TrodAll enc Tryz.prog W 0 (fun _ => true) true Tryz.f7.params.toList args.toList ds p := hA0
  rw [Tryz.params7] at hA hval hWt
  obtain ⟨v0, vs0, d0, ds0, p0, q0, hargs, rfl, rfl, h0, r0⟩ := trodAll_cons hA
  obtain ⟨v1, vs1, d1, ds1, p1, q1, rfl, rfl, rfl, h1, r1⟩ := trodAll_cons r0
  obtain ⟨v2, vs2, d2, ds2, p2, q2, rfl, rfl, rfl, h2, r2⟩ := trodAll_cons r1
  obtain ⟨rfl, rfl, rfl⟩ := trodAll_nil r2
  obtain rfl : args = #[v0, v1, v2] := by cases args; simp_all
  obtain ⟨rfl, rfl⟩ := trodVars_none hV
  have lt0 : ∀ x ∈ p0, x.block < W.heap.size := by obtain ⟨m, hm⟩ := h0; exact DataW.trod_lt m _ _ _ hm
  obtain ⟨cs0, fuel0, y0, rfl, hf0⟩ := agg_open Tryz.underlying24 (hval 0 24 v0 rfl rfl) h0
  obtain ⟨g0, rfl, hg0⟩ := feature_cells hf0
  have lt1 : ∀ x ∈ p1, x.block < W.heap.size := by obtain ⟨m, hm⟩ := h1; exact DataW.trod_lt m _ _ _ hm
  obtain ⟨A1, n1, c1, rfl⟩ := okWide_slice Tryz.underlying25 (hval 1 25 v1 rfl rfl)
  have k1 := h1
  obtain ⟨fuel1, hf1⟩ := k1
  obtain ⟨l1, hl1, hg1, hn1, hx1⟩ := open_rows shH Tryz.underlying25 (by kernel_rfl : Tryz.prog.cellsOf 69 = shH.z) (by decide) ⟨none, 0, 0⟩ _ (fun _ _ _ h => curve_cells2 h) hf1
  obtain ⟨x2, rfl, rfl, rfl, w2⟩ := open_int Tryz.underlying3 (hval 2 3 v2 rfl rfl) h2
  clear hA0 hval0 hWt
  simp only [List.append_nil] at hW'
  refine (profile_levels W g0 hg0 A1 n1 c1 l1 hl1 hg1 hn1 x2 w2 (laid_of hL)).mono fun e W' ⟨he, bel⟩ => ?_
  subst he
  exact ⟨_, rfl, _, _, _, [], _, [], hW', trodAll_mk1 (shut_bool Tryz.underlying4 _), (trodAll_cons_mk (Below.trod laidOut (by kernel_rfl) (of_decide_eq_true (by kernel_rfl)) h0 bel lt0) (trodAll_cons_mk (Below.trod laidOut (by kernel_rfl) (of_decide_eq_true (by kernel_rfl)) h1 bel lt1) (trodAll_cons_mk (shut_int Tryz.underlying3 w2) trodAll_mk0))), rfl, bel.frame _, fun h => by cases h⟩

theorem over : Rows.profileLevelsRow.holds Tryz.pinned (OpenSpec.ofChange Rows.profileLevelsSpec) :=
  OpenClaim.holds_of_wide 7 Tryz.f7 rfl rfl rfl rfl rfl rfl rfl ⟨rfl, rfl, rfl, rfl, rfl⟩ rfl rfl rfl rfl rfl (by kernel_rfl) Tryz.func7 profileLevels_facts
    (of_decide_eq_true (by kernel_rfl)) (by unfold Func.isWrapper; rw [if_neg (of_decide_eq_false (by kernel_rfl))]; exact ⟨rfl, rfl⟩)
    (fun os started H enc _ => lifted os started H enc)

theorem noStandIn : ∀ t ∈ Tryz.f7.params.toList, Tryz.prog.wantsStandIn t = false := by
  rw [Tryz.params7]
  intro t ht
  simp only [List.mem_cons, List.not_mem_nil, or_false] at ht
  rcases ht with rfl | rfl | rfl <;> kernel_rfl

theorem proved : Rows.ProfileLevelsCardSaid :=
  Claim7.holds_tied_plain_at .later [] [.data, .data, .data, .data, .sentinel, .sentinel, .pinned] true (true, "c3d8ae1918c4f8ff505efee564eec2d4328f310576adbccc116a5ab88642d2ca") true
    over (fun _ h => by cases h) (by kernel_rfl) (fun _ h => by cases h) profileLevels_row_tie rfl ⟨rfl, rfl⟩ (by kernel_rfl) rfl
    (fun f fn hf hfn => by
      obtain rfl : f = 7 := Option.some.inj ((show Tryz.prog.funcNamed "luminaire/luminairelaw10.ProfileLevels" = some 7 by kernel_rfl).symm.trans hf) |>.symm
      obtain rfl : fn = Tryz.f7 := (Option.some.inj (Tryz.func7.symm.trans hfn)).symm
      exact ⟨by kernel_rfl, fun j t ht => noStandIn t (Array.mem_toList_iff.2 (Array.mem_of_getElem? ht))⟩)
    (by kernel_rfl)
#print axioms proved
end Go.Proofs.YtpinmgoeapakdaaGreatDoor.profileLevelsP
