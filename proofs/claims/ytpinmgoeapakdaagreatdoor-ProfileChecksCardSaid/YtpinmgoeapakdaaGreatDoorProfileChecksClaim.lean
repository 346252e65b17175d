/- ProfileChecks: for every input the law returns true, and its arguments read behind the call as they read before. The package variables that the row lists hold what the program's text lays. -/
import Derived.Test.YtpinmgoeapakdaaGreatDoorGProK
import Derived.Test.YtpinmgoeapakdaaGreatDoorGProL
import Derived.Test.YtpinmgoeapakdaaGreatDoorGLaw
import Derived.Test.YtpinmgoeapakdaaGreatDoorFProfileChecks
import Derived.Test.YtpinmgoeapakdaaGreatDoorCards
import Derived.Test.YtpinmgoeapakdaaGreatDoorTie
import Derived.SevenTiedAt
import Derived.SizedLaws
namespace Go.Proofs.YtpinmgoeapakdaaGreatDoor
open Go.RowKit

theorem fewP_len {name : ByteArray} {L : List Fea} (h : fewP name L = true) : L.length ≤ 40 := by
  unfold fewP at h
  simp only [Bool.and_eq_true, decide_eq_true_eq] at h
  exact h.1.1
set_option maxRecDepth 100000 in
set_option maxHeartbeats 8000000 in
theorem pchecks_walk (w : World) (s : ByteArray) (ft wa : Int) (A : Option Addr) (n c : Nat) (H : List FC) (l : List Fea) (A' : Option Addr) (n' c' : Nat) (H' : List Hd) (L : List (List PT)) (attr : Int) (hs : s.size ≤ 9223372036854775807) (hq : InQ w A n H l) (hnn : n ≤ 9223372036854775807) (hl : InN w A' n' H' L) (hm : ∀ h ∈ H', h.n ≤ 9223372036854775807) (hn : n' ≤ 9223372036854775807) (hc1 : n ≤ c) (hc2 : c ≤ 9223372036854775807) (ht : Tab w) (hr : Rng w) :
    Calls Tryz.prog 10 #[.agg #[.string s, .int .i64 ft, .int .i64 wa, .slice A n c], .slice A' n' c', .int .i64 attr] w fun e w' => e = .returned (.bool true) ∧ Below w.heap.size w w' := by
  have HAw := Lib.hid (fun w ht hr => pawake_any w ht hr)
  have HF := Lib.hid (fun w (hq : InQ w A n H l) hl => lfew_any s ft wa A n c H l A' n' c' H' L w hq.1 hnn hl hn)
  have HP := Lib.hid (show (fewP s l && fewAll L) = true → ∀ w, InQ w A n H l → InP w A n H l from fun h w hq => ⟨hq.1, by
    have h1 := fewP_len (Bool.and_eq_true_iff.1 h).1
    have h2 := hq.1.1.1
    have h3 := hq.1.2.1
    omega, hq.2⟩)
  have HFp := Lib.hid (fun w hp hl => pFind_any s ft wa A n c H l A' n' c' H' L attr w hp hl hm)
  have HFr := Lib.hid (fun w hp hl => rFind_any s ft wa A n c H l A' n' c' H' L attr w hs hp hl hm hn hc1 hc2)
  have HCp := Lib.hid (fun w hp hl => pCheck_any s ft wa A n c H l A' n' c' H' L w hp hl hm)
  have HCr := Lib.hid (fun w hp hl => rCheck_any s ft wa A n c H l A' n' c' H' L w hs hp hl hm hn hc1 hc2)
  generalize findV s ft wa H l L attr = V at *
  generalize findE s ft wa H l L attr = E at *
  generalize profE s ft wa l L = q at *
  generalize (fewP s l && fewAll L) = fw at *
  obtain ⟨W, hW⟩ : ∃ W, W = w.alloc (.cells #[.string s, .int .i64 ft, .int .i64 wa, .slice A n c] 30) := ⟨_, rfl⟩
  obtain ⟨hB0, hK⟩ := pbox s ft wa A n c w W hW
  have HK := Lib.hid hK
  have HW := Lib.hid hW
  have HB0 := Lib.hid hB0
  have hB := Below.refl W.heap.size W
  obtain ⟨c0, c1, c2, c3⟩ := hK W hB
  have HQ := Lib.hid (show ∀ w', Below W.heap.size W w' → InQ w' A n H l from fun w' hb => by
    have hb2 := HB0.out.trans (hb.mono HB0.out.size)
    exact ⟨hq.1.below hb2, fun i h1 h2 => (hq.2 i h1 h2).below hb2⟩)
  have HL := Lib.hid (hl.below HB0.out)
  have HT := Lib.hid (ht.below HB0.out)
  have HRg := Lib.hid (hr.below HB0.out)
  clear hW hB0 hK hl ht hr hm hq hs hc1 hc2
  cases fw with
  | false =>
    go_enter Tryz.func10, Tryz.ntmps10
    go_wp2_with fail
    rw [← HW.out]
    refine (HF.out _ (HQ.out _ hB) (HL.out.below hB)).mono ?_
    rintro e wk ⟨rfl, hb⟩
    replace hB := hB.trans (hb.mono hB.size)
    clear hb
    go_wp2_with fail
    refine (HAw.out _ (HT.out.below hB) (HRg.out.below hB)).mono ?_
    rintro e wk ⟨rfl, hb⟩
    replace hB := hB.trans (hb.mono hB.size)
    clear hb
    go_wp2_with fail
    go_ret
    exact ⟨rfl, HB0.out.trans (hB.mono HB0.out.size)⟩
  | true =>
    have HQ2 := Lib.hid (fun w' h => HP.out rfl w' (HQ.out w' h))
    go_enter Tryz.func10, Tryz.ntmps10
    go_wp2_with fail
    rw [← HW.out]
    refine (HF.out _ (HQ.out _ hB) (HL.out.below hB)).mono ?_
    rintro e wk ⟨rfl, hb⟩
    replace hB := hB.trans (hb.mono hB.size)
    clear hb
    obtain ⟨c0, c1, c2, c3⟩ := HK.out _ hB
    go_wp2_with fail
    refine (HFp.out _ (HQ2.out _ hB) (HL.out.below hB)).mono ?_
    rintro e wk ⟨rfl, hb⟩
    replace hB := hB.trans (hb.mono hB.size)
    clear hb
    obtain ⟨c0, c1, c2, c3⟩ := HK.out _ hB
    go_wp2_with fail
    refine (HFr.out _ (HQ2.out _ hB) (HL.out.below hB)).mono ?_
    rintro e wk ⟨rfl, hb⟩
    replace hB := hB.trans (hb.mono hB.size)
    clear hb
    obtain ⟨c0, c1, c2, c3⟩ := HK.out _ hB
    go_wp2_with fail
    replace hB := below_drewN hB 1
    obtain ⟨c0, c1, c2, c3⟩ := HK.out _ hB
    go_region_held3 (fun w' => w'.cell? ⟨w.heap.size, 0, none⟩ = some (.string s) ∧ w'.cell? ⟨w.heap.size, 1, none⟩ = some (.int .i64 ft) ∧ w'.cell? ⟨w.heap.size, 2, none⟩ = some (.int .i64 wa) ∧ w'.cell? ⟨w.heap.size, 3, none⟩ = some (.slice A n c)) (exact ⟨c0, c1, c2, c3⟩) (first | (go_at_call 38; refine (HCp.out _ (HQ2.out _ hB) (HL.out.below hB)).mono ?_; rintro e wk ⟨rfl, hb⟩; replace hB := hB.trans (hb.mono hB.size); clear hb; obtain ⟨c0, c1, c2, c3⟩ := HK.out _ hB) | (go_at_call 39; refine (HCr.out _ (HQ2.out _ hB) (HL.out.below hB)).mono ?_; rintro e wk ⟨rfl, hb⟩; replace hB := hB.trans (hb.mono hB.size); clear hb; obtain ⟨c0, c1, c2, c3⟩ := HK.out _ hB) | (go_at_call 14; refine (HAw.out _ (HT.out.below hB) (HRg.out.below hB)).mono ?_; rintro e wk ⟨rfl, hb⟩; replace hB := hB.trans (hb.mono hB.size); clear hb; obtain ⟨c0, c1, c2, c3⟩ := HK.out _ hB))
    go_wp2_with fail
    go_ret
    exact ⟨rfl, HB0.out.trans (hB.mono HB0.out.size)⟩
theorem profile_checks (w : World) (p : PC) (hp : p.good w) (A : Option Addr) (n c : Nat) (H : List Hd) (hl : shH.In w A n H) (hgs : ∀ g ∈ H, (∃ l, shP.In w g.A g.n l) ∧ g.n ≤ maxLen) (hn : n ≤ maxLen) (attr : Int) (_hs : (Lit.int .i64 attr).wf = true) (hL : Laid w) :
    Calls Tryz.prog 10 #[.agg (shPr.cs p).toArray, .slice A n c, .int .i64 attr] w fun e w' => e = .returned (.bool true) ∧ Below w.heap.size w w' := by
  obtain ⟨hs, hpn, Hf, l, hq⟩ := hp
  obtain ⟨L, h⟩ := curves_of hl hgs
  exact pchecks_walk w p.s p.ft p.wa p.A p.n p.c Hf l A n c H L attr (by unfold maxLen at hs; omega) hq (by have := hpn.1; unfold maxLen at this; omega) h (fun g hh => by have := (hgs g hh).2; unfold maxLen at this; omega) (by unfold maxLen at hn; omega) hpn.2.1 (by have := hpn.2.2; unfold maxLen at this; omega) hL.1 hL.2
end Go.Proofs.YtpinmgoeapakdaaGreatDoor

namespace Go.Proofs.YtpinmgoeapakdaaGreatDoor.profileChecksP
open Go.ChangeShapes Go.ChangeMaps Go.WideShapes Go.ChangeAt Go.RowKit

set_option maxRecDepth 100000 in
theorem lifted (os : Os) (started : os.Started) (H : Type) (enc : TypeId × Value → H) :
    ReturnsInHanded {} Tryz.checked os 10 .any (fun w args => (Rows.profileChecksSpec.pre enc Tryz.prog Tryz.f10 [] false w args ∧ laidMetH Tryz.prog Rows.profileChecksRow.laid w) ∧ sizedMet enc Tryz.prog Tryz.f10 (OpenSpec.ofChange Rows.profileChecksSpec) false w args)
      (Rows.profileChecksSpec.post enc Tryz.prog Tryz.f10 false true false false) := by
  refine returnsInHanded_of_change_and (C := Tryz.checked) (X := fun w _ => laidMetH Tryz.prog Rows.profileChecksRow.laid w) (fun _ _ _ hh h => h.of_heap hh) own_ started (by kernel_rfl) Tryz.func10
    (ChangeSpec.witness_at (enc := enc) (C := Tryz.checked) (os := os) (X := fun w _ => laidMetH Tryz.prog Rows.profileChecksRow.laid w) false (laidWorld os) #[.agg #[.string ⟨#[]⟩, .int .i64 0, .int .i64 0, .slice none 0 0], .slice none 0 0, .int .i64 0] 8 rfl (by kernel_rfl) (by kernel_rfl) (by kernel_rfl) (by kernel_rfl) (by kernel_rfl) (laid_met os _)) ?_
  intro W base args ds gs before hval0 hW _ hWt hL _
  have hval : ∀ (j : Nat) t v, Tryz.f10.params[j]? = some t → args[j]? = some v → Value.okWide Tryz.prog W .any base t v := hval0
  have hW' := hW
  obtain ⟨p, q, hA0, hV, rfl, hfz, hnd⟩ := hW
  have hA : DataW.TrodAll enc Tryz.prog W 0 (fun _ => true) true Tryz.f10.params.toList args.toList ds p := hA0
  rw [Tryz.params10] at hA hval hWt
  obtain ⟨v0, vs0, d0, ds0, p0, q0, hargs, rfl, rfl, h0, r0⟩ := trodAll_cons hA
  obtain ⟨v1, vs1, d1, ds1, p1, q1, rfl, rfl, rfl, h1, r1⟩ := trodAll_cons r0
  obtain ⟨v2, vs2, d2, ds2, p2, q2, rfl, rfl, rfl, h2, r2⟩ := trodAll_cons r1
  obtain ⟨rfl, rfl, rfl⟩ := trodAll_nil r2
  obtain rfl : args = #[v0, v1, v2] := by cases args; simp_all
  obtain ⟨rfl, rfl⟩ := trodVars_none hV
  have lt0 : ∀ x ∈ p0, x.block < W.heap.size := by obtain ⟨m, hm⟩ := h0; exact DataW.trod_lt m _ _ _ hm
  obtain ⟨cs0, fuel0, y0, rfl, hf0⟩ := agg_open Tryz.underlying30 (hval 0 30 v0 rfl rfl) h0
  obtain ⟨g0, rfl, hg0⟩ := prof_cells hf0
  have lt1 : ∀ x ∈ p1, x.block < W.heap.size := by obtain ⟨m, hm⟩ := h1; exact DataW.trod_lt m _ _ _ hm
  obtain ⟨A1, n1, c1, rfl⟩ := okWide_slice Tryz.underlying25 (hval 1 25 v1 rfl rfl)
  have k1 := h1
  obtain ⟨fuel1, hf1⟩ := k1
  obtain ⟨l1, hl1, hg1, hn1, hx1⟩ := open_rows shH Tryz.underlying25 (by kernel_rfl : Tryz.prog.cellsOf 69 = shH.z) (by decide) ⟨none, 0, 0⟩ _ (fun _ _ _ h => curve_cells h) hf1
  obtain ⟨x2, rfl, rfl, rfl, w2⟩ := open_int Tryz.underlying3 (hval 2 3 v2 rfl rfl) h2
  clear hA0 hval0 hWt
  simp only [List.append_nil] at hW'
  refine (profile_checks W g0 hg0 A1 n1 c1 l1 hl1 hg1 hn1 x2 w2 (laid_of hL)).mono fun e W' ⟨he, bel⟩ => ?_
  subst he
  exact ⟨_, rfl, _, _, _, [], _, [], hW', trodAll_mk1 (shut_bool Tryz.underlying4 _), (trodAll_cons_mk (Below.trod laidOut (by kernel_rfl) (of_decide_eq_true (by kernel_rfl)) h0 bel lt0) (trodAll_cons_mk (Below.trod laidOut (by kernel_rfl) (of_decide_eq_true (by kernel_rfl)) h1 bel lt1) (trodAll_cons_mk (shut_int Tryz.underlying3 w2) trodAll_mk0))), rfl, bel.frame _, fun h => by cases h⟩

theorem over : Rows.profileChecksRow.holds Tryz.pinned (OpenSpec.ofChange Rows.profileChecksSpec) :=
  OpenClaim.holds_of_wide 10 Tryz.f10 rfl rfl rfl rfl rfl rfl rfl ⟨rfl, rfl, rfl, rfl, rfl⟩ rfl rfl rfl rfl rfl (by kernel_rfl) Tryz.func10 profileChecks_facts
    (of_decide_eq_true (by kernel_rfl)) (by unfold Func.isWrapper; rw [if_neg (of_decide_eq_false (by kernel_rfl))]; exact ⟨rfl, rfl⟩)
    (fun os started H enc _ => lifted os started H enc)

theorem noStandIn : ∀ t ∈ Tryz.f10.params.toList, Tryz.prog.wantsStandIn t = false := by
  rw [Tryz.params10]
  intro t ht
  simp only [List.mem_cons, List.not_mem_nil, or_false] at ht
  rcases ht with rfl | rfl | rfl <;> kernel_rfl

theorem proved : Rows.ProfileChecksCardSaid :=
  Claim7.holds_tied_plain_at .later [] [.data, .data, .data, .data, .sentinel, .sentinel, .pinned] true (true, "c3d8ae1918c4f8ff505efee564eec2d4328f310576adbccc116a5ab88642d2ca") true
    over (fun _ h => by cases h) (by kernel_rfl) (fun _ h => by cases h) profileChecks_row_tie rfl ⟨rfl, rfl⟩ (by kernel_rfl) rfl
    (fun f fn hf hfn => by
      obtain rfl : f = 10 := Option.some.inj ((show Tryz.prog.funcNamed "luminaire/luminairelaw10.ProfileChecks" = some 10 by kernel_rfl).symm.trans hf) |>.symm
      obtain rfl : fn = Tryz.f10 := (Option.some.inj (Tryz.func10.symm.trans hfn)).symm
      exact ⟨by kernel_rfl, fun j t ht => noStandIn t (Array.mem_toList_iff.2 (Array.mem_of_getElem? ht))⟩)
    (by kernel_rfl)
#print axioms proved
end Go.Proofs.YtpinmgoeapakdaaGreatDoor.profileChecksP
