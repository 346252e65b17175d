/- Lemmas and contracts of functions, joined for the claim: PrRight. -/
import Derived.Test.YtpinmgoeapakdaaGreatDoorGProE
namespace Go.Proofs.YtpinmgoeapakdaaGreatDoor
open Go.RowKit

theorem inF_single {w : World} {b : Nat} {f : FC} {wl : List Slt} (h : shF.In w (some ⟨b, 0, none⟩) 1 [f]) (hw : FW w f wl) : InF w (some ⟨b, 0, none⟩) 1 [f] [f.fea wl] :=
  ⟨h, rfl, fun i h1 h2 => by
    obtain rfl : i = 0 := by simp at h1; omega
    exact ⟨rfl, hw.1⟩⟩
theorem rawE_zero (F : Fea) (L : List (List PT)) : rawE F L ⟨#[48]⟩ = aloneE F L := by
  unfold rawE
  by_cases h : aloneE F L = 0
  · rw [if_neg (fun hn => hn h), h, ← m0, sR_list, chkR_fit ((SzR.int (k := 5) (z := 0) (by decide) (by decide)).fit (by decide))]
  · rw [if_pos h]
def rightF (F : Fea) (L : List (List PT)) : Bool := fewP ⟨#[]⟩ [F] && fewAll L && decide (aloneE F L = 0)
set_option maxHeartbeats 4000000 in
theorem lright_any (f : FC) (wl : List Slt) (A' : Option Addr) (n' c' : Nat) (H : List Hd) (L : List (List PT)) (w : World) (hw : FW w f wl) (hl : InN w A' n' H L) (hm : ∀ h ∈ H, h.n ≤ 9223372036854775807) (hn : n' ≤ 9223372036854775807) :
    Calls Tryz.prog 21 #[f.val, .slice A' n' c'] w fun e w' => e = .returned (.bool (rightF (f.fea wl) L)) ∧ Below w.heap.size w w' := by
  have HO0 := Lib.hid (fun w => lone_any f w)
  have HF0 := Lib.hid (fun b w (hx : shF.In w (some ⟨b, 0, none⟩) 1 [f]) (hw : FW w f wl) hl => lfew_any ⟨#[]⟩ 0 0 (some ⟨b, 0, none⟩) 1 1 [f] [f.fea wl] A' n' c' H L w (inF_single hx hw) (by decide) hl hn)
  have HR0 := Lib.hid (fun w hw hl => rraw_any f wl A' n' c' H L ⟨#[48]⟩ w hw hl hm hn (by decide))
  rw [rawE_zero] at HR0
  obtain ⟨B, hB⟩ : ∃ B, B = rightF (f.fea wl) L := ⟨_, rfl⟩
  rw [← hB]
  unfold rightF at hB
  generalize rawV (f.fea wl) L ⟨#[48]⟩ = V at *
  generalize aloneE (f.fea wl) L = E at *
  generalize (fewP ⟨#[]⟩ [f.fea wl] && fewAll L) = fw at *
  have HBe := Lib.hid hB
  clear hB
  obtain ⟨at_, bits, co, fi, cu, ho, lo, hi, sn, A, n, c⟩ := f
  have HO := Lib.hid (show ∀ w', Calls Tryz.prog 12 #[.agg #[.int .i64 at_, .int .i64 bits, .int .i64 co, .int .i64 fi, .int .i64 cu, .int .i64 ho, .int .i64 lo, .int .i64 hi, .bool sn, .slice A n c]] w' fun e w'' => ∃ b, e = .returned (.agg #[.string ⟨#[]⟩, .int .i64 0, .int .i64 0, .slice (some ⟨b, 0, none⟩) 1 1]) ∧ shF.In w'' (some ⟨b, 0, none⟩) 1 [⟨at_, bits, co, fi, cu, ho, lo, hi, sn, A, n, c⟩] ∧ Below w'.heap.size w' w'' from HO0.out)
  show Calls Tryz.prog 21 #[.agg #[.int .i64 at_, .int .i64 bits, .int .i64 co, .int .i64 fi, .int .i64 cu, .int .i64 ho, .int .i64 lo, .int .i64 hi, .bool sn, .slice A n c], .slice A' n' c'] w fun e w' => e = .returned (.bool B) ∧ Below w.heap.size w w'
  have HR := Lib.hid (show ∀ w', FW w' ⟨at_, bits, co, fi, cu, ho, lo, hi, sn, A, n, c⟩ wl → InN w' A' n' H L → Calls Tryz.prog 16 #[.agg #[.int .i64 at_, .int .i64 bits, .int .i64 co, .int .i64 fi, .int .i64 cu, .int .i64 ho, .int .i64 lo, .int .i64 hi, .bool sn, .slice A n c], .slice A' n' c', .string ⟨#[48]⟩] w' fun e w'' => e = .returned (.tuple #[.int .i64 V, .int .i64 E]) ∧ Below w'.heap.size w' w'' from HR0.out)
  have HF := Lib.hid HF0.out
  obtain ⟨W, hW⟩ : ∃ W, W = w.alloc (.cells #[.int .i64 at_, .int .i64 bits, .int .i64 co, .int .i64 fi, .int .i64 cu, .int .i64 ho, .int .i64 lo, .int .i64 hi, .bool sn, .slice A n c] 24) := ⟨_, rfl⟩
  obtain ⟨hB0, hK⟩ := fbox at_ bits co fi cu ho lo hi sn A n c w W hW
  have HK := Lib.hid hK
  have HW := Lib.hid hW
  have HB0 := Lib.hid hB0
  have hB := Below.refl W.heap.size W
  obtain ⟨c0, c1, c2, c3, c4, c5, c6, c7, c8, c9⟩ := hK W hB
  clear hW hB0 hK
  have HL := Lib.hid (hw.below HB0.out)
  have HL2 := Lib.hid (hl.below HB0.out)
  clear hw hl hm HO0 HF0 HR0
  cases fw with
  | false =>
    have hB9 : B = false := by rw [HBe.out]; rfl
    subst hB9
    go_enter Tryz.func21, Tryz.ntmps21
    go_wp2_with fail
    rw [← HW.out]
    refine (HO.out _).mono ?_
    rintro e wk ⟨b, rfl, hi1, hb⟩
    replace hB := hB.trans (hb.mono hB.size)
    clear hb
    go_wp2_with fail
    refine (HF.out _ _ hi1 (HL.out.below hB) (HL2.out.below hB)).mono ?_
    rintro e wk ⟨rfl, hb⟩
    replace hB := hB.trans (hb.mono hB.size)
    clear hb hi1
    go_wp2_with fail
    go_ret
    exact ⟨rfl, HB0.out.trans (hB.mono HB0.out.size)⟩
  | true =>
    have hB9 : B = (E == 0) := by rw [HBe.out, Bool.true_and, Bool.eq_iff_iff]; simp
    clear HBe
    go_enter Tryz.func21, Tryz.ntmps21
    go_wp2_with fail
    rw [← HW.out]
    refine (HO.out _).mono ?_
    rintro e wk ⟨b, rfl, hi1, hb⟩
    replace hB := hB.trans (hb.mono hB.size)
    clear hb
    go_wp2_with fail
    refine (HF.out _ _ hi1 (HL.out.below hB) (HL2.out.below hB)).mono ?_
    rintro e wk ⟨rfl, hb⟩
    replace hB := hB.trans (hb.mono hB.size)
    clear hb hi1
    obtain ⟨c0, c1, c2, c3, c4, c5, c6, c7, c8, c9⟩ := HK.out _ hB
    go_wp2_with fail
    refine (HR.out _ (HL.out.below hB) (HL2.out.below hB)).mono ?_
    rintro e wk ⟨rfl, hb⟩
    replace hB := hB.trans (hb.mono hB.size)
    clear hb
    obtain ⟨c0, c1, c2, c3, c4, c5, c6, c7, c8, c9⟩ := HK.out _ hB
    go_wp2_with fail
    go_ret
    exact ⟨ret_b hB9.symm, HB0.out.trans (hB.mono HB0.out.size)⟩
end Go.Proofs.YtpinmgoeapakdaaGreatDoor
