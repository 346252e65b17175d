/- ProfileKeeps: for every input the law returns true, and its arguments read behind the call as they read before. The package variables that the row lists hold what the program's text lays. -/
import Derived.Test.YtpinmgoeapakdaaGreatDoorGProF
import Derived.Test.YtpinmgoeapakdaaGreatDoorGProG
import Derived.Test.YtpinmgoeapakdaaGreatDoorGProH
import Derived.MapKept
import Derived.Test.YtpinmgoeapakdaaGreatDoorGLaw
import Derived.Test.YtpinmgoeapakdaaGreatDoorFProfileKeeps
import Derived.Test.YtpinmgoeapakdaaGreatDoorCards
import Derived.Test.YtpinmgoeapakdaaGreatDoorTie
import Derived.SevenTiedAt
import Derived.SizedLaws
namespace Go.Proofs.YtpinmgoeapakdaaGreatDoor
open Go.RowKit

theorem one_txtK : sI (1 : Int) = (⟨#[49]⟩ : ByteArray) := (bs_eq (by rw [sI_list, itoa_one])).symm

def KeptB (bits M : Int) (BV : List Int) : Prop :=
  Int.tdiv bits 8 = (BV.length : Int) ∧ BV.length ≤ 2 ∧ (∀ i (h : i < BV.length), 0 ≤ BV[i] ∧ BV[i] ≤ 255) ∧ ∃ mk : Nat → Int, mk 0 = 0 ∧ (∀ i (h : i < BV.length), mk (i + 1) = 256 * mk i + BV[i]) ∧ mk BV.length = M ∧ ∀ i, 0 ≤ mk i ∧ mk i ≤ 65535
theorem kept_of {F : Fea} {L : List (List PT)} (ha : aloneE F L = 0) {M : Int} (h0 : F.lo ≤ M) (h1 : M ≤ F.hi) : bytesE F M = 0 ∧ KeptB F.bits M (bytesV F M) := by
  obtain ⟨e, ⟨h8, hv, m0, m1⟩ | ⟨h16, hv, m0, m1⟩⟩ := bytes_fit ha h0 h1
  · refine ⟨e, ?_⟩
    rw [hv, h8]
    refine ⟨show Int.tdiv 8 8 = 1 by decide, by simp, fun i h => ?_, fun i => if i = 0 then 0 else M, rfl, fun i h => ?_, rfl, fun i => ?_⟩
    · obtain rfl : i = 0 := by simp at h; omega
      exact ⟨m0, m1⟩
    · obtain rfl : i = 0 := by simp at h; omega
      show M = 256 * 0 + M
      omega
    · show 0 ≤ (if i = 0 then (0 : Int) else M) ∧ (if i = 0 then (0 : Int) else M) ≤ 65535
      by_cases hi : i = 0
      · rw [if_pos hi]; omega
      · rw [if_neg hi]; omega
  · refine ⟨e, ?_⟩
    rw [hv, h16]
    refine ⟨show Int.tdiv 16 8 = 2 by decide, by simp, fun i h => ?_, fun i => if i = 0 then 0 else if i = 1 then M / 256 else M, rfl, fun i h => ?_, rfl, fun i => ?_⟩
    · match i, h with
      | 0, _ => show 0 ≤ M / 256 ∧ M / 256 ≤ 255; omega
      | 1, _ => show 0 ≤ M % 256 ∧ M % 256 ≤ 255; omega
    · match i, h with
      | 0, _ => show M / 256 = 256 * 0 + M / 256; omega
      | 1, _ => show M = 256 * (M / 256) + M % 256; omega
    · show 0 ≤ (if i = 0 then (0 : Int) else if i = 1 then M / 256 else M) ∧ (if i = 0 then (0 : Int) else if i = 1 then M / 256 else M) ≤ 65535
      by_cases hi : i = 0
      · rw [if_pos hi]; omega
      · rw [if_neg hi]
        by_cases hi2 : i = 1
        · rw [if_pos hi2]; omega
        · rw [if_neg hi2]; omega
def fcW : FC := ⟨0, 8, 0, 0, 0, 0, 0, 255, false, none, 0, 0⟩
theorem fw_whole (w : World) : FW w fcW [] := ⟨Sh.In.nil _ _, ⟨Nat.le_refl _, Nat.zero_le _⟩, fun x hx => by cases hx⟩
set_option maxRecDepth 100000 in
set_option maxHeartbeats 16000000 in
theorem pkeeps_walk (w : World) (f : FC) (wl : List Slt) (A' : Option Addr) (n' c' : Nat) (H : List Hd) (L : List (List PT)) (s : ByteArray) (hw : FW w f wl) (hl : InN w A' n' H L) (hm : ∀ h ∈ H, h.n ≤ 9223372036854775807) (hcp : ∀ h ∈ H, h.n ≤ h.c ∧ h.c ≤ 9223372036854775807) (hn : n' ≤ 9223372036854775807) (hs : s.size ≤ 9223372036854775807) (ht : Tab w) (hr : Rng w) :
    Calls Tryz.prog 9 #[f.val, .slice A' n' c', .string s] w fun e w' => e = .returned (.bool true) ∧ Below w.heap.size w w' := by
  have HAw := Lib.hid (fun w ht hr => pawake_any w ht hr)
  have HRt0 := Lib.hid (fun w hw hl => lright_any f wl A' n' c' H L w hw hl hm hn)
  have HS := Lib.hid (fun w => sfew_any s w hs)
  by_cases hright : rightF (f.fea wl) L = true
  case neg =>
    rw [show rightF (f.fea wl) L = false by simpa using hright] at HRt0
    obtain ⟨at_, bits, co, fi, cu, ho, lo, hi, sn, A, n, c⟩ := f
    have HRt := Lib.hid (show ∀ w', FW w' ⟨at_, bits, co, fi, cu, ho, lo, hi, sn, A, n, c⟩ wl → InN w' A' n' H L → Calls Tryz.prog 21 #[.agg #[.int .i64 at_, .int .i64 bits, .int .i64 co, .int .i64 fi, .int .i64 cu, .int .i64 ho, .int .i64 lo, .int .i64 hi, .bool sn, .slice A n c], .slice A' n' c'] w' fun e w'' => e = .returned (.bool false) ∧ Below w'.heap.size w' w'' from HRt0.out)
    show Calls Tryz.prog 9 #[.agg #[.int .i64 at_, .int .i64 bits, .int .i64 co, .int .i64 fi, .int .i64 cu, .int .i64 ho, .int .i64 lo, .int .i64 hi, .bool sn, .slice A n c], .slice A' n' c', .string s] w fun e w' => e = .returned (.bool true) ∧ Below w.heap.size w w'
    obtain ⟨W, hW⟩ : ∃ W, W = w.alloc (.cells #[.int .i64 at_, .int .i64 bits, .int .i64 co, .int .i64 fi, .int .i64 cu, .int .i64 ho, .int .i64 lo, .int .i64 hi, .bool sn, .slice A n c] 24) := ⟨_, rfl⟩
    obtain ⟨hB0, hK⟩ := fbox at_ bits co fi cu ho lo hi sn A n c w W hW
    have HK := Lib.hid hK
    have HW := Lib.hid hW
    have HB0 := Lib.hid hB0
    have hB := Below.refl W.heap.size W
    obtain ⟨c0, c1, c2, c3, c4, c5, c6, c7, c8, c9⟩ := hK W hB
    clear hW hB0 hK
    have HL := Lib.hid (hw.below HB0.out)
    have HL2 := Lib.hid (hl.below HB0.out)
    have HT := Lib.hid (ht.below HB0.out)
    have HRg := Lib.hid (hr.below HB0.out)
    clear hw hl ht hr hm hcp HRt0 hright
    go_enter Tryz.func9, Tryz.ntmps9
    go_wp2_with fail
    rw [← HW.out]
    refine (HRt.out _ (HL.out.below hB) (HL2.out.below hB)).mono ?_
    rintro e wk ⟨rfl, hb⟩
    replace hB := hB.trans (hb.mono hB.size)
    clear hb
    obtain ⟨c0, c1, c2, c3, c4, c5, c6, c7, c8, c9⟩ := HK.out _ hB
    go_wp2_with fail
    refine (HAw.out _ (HT.out.below hB) (HRg.out.below hB)).mono ?_
    rintro e wk ⟨rfl, hb⟩
    replace hB := hB.trans (hb.mono hB.size)
    clear hb
    obtain ⟨c0, c1, c2, c3, c4, c5, c6, c7, c8, c9⟩ := HK.out _ hB
    go_wp2_with fail
    go_ret
    exact ⟨rfl, HB0.out.trans (hB.mono HB0.out.size)⟩
  case pos =>
  rw [hright] at HRt0
  by_cases hfew : s.size ≤ 120
  case neg =>
    rw [decide_eq_false hfew] at HS
    obtain ⟨at_, bits, co, fi, cu, ho, lo, hi, sn, A, n, c⟩ := f
    have HRt := Lib.hid (show ∀ w', FW w' ⟨at_, bits, co, fi, cu, ho, lo, hi, sn, A, n, c⟩ wl → InN w' A' n' H L → Calls Tryz.prog 21 #[.agg #[.int .i64 at_, .int .i64 bits, .int .i64 co, .int .i64 fi, .int .i64 cu, .int .i64 ho, .int .i64 lo, .int .i64 hi, .bool sn, .slice A n c], .slice A' n' c'] w' fun e w'' => e = .returned (.bool true) ∧ Below w'.heap.size w' w'' from HRt0.out)
    show Calls Tryz.prog 9 #[.agg #[.int .i64 at_, .int .i64 bits, .int .i64 co, .int .i64 fi, .int .i64 cu, .int .i64 ho, .int .i64 lo, .int .i64 hi, .bool sn, .slice A n c], .slice A' n' c', .string s] w fun e w' => e = .returned (.bool true) ∧ Below w.heap.size w w'
    obtain ⟨W, hW⟩ : ∃ W, W = w.alloc (.cells #[.int .i64 at_, .int .i64 bits, .int .i64 co, .int .i64 fi, .int .i64 cu, .int .i64 ho, .int .i64 lo, .int .i64 hi, .bool sn, .slice A n c] 24) := ⟨_, rfl⟩
    obtain ⟨hB0, hK⟩ := fbox at_ bits co fi cu ho lo hi sn A n c w W hW
    have HK := Lib.hid hK
    have HW := Lib.hid hW
    have HB0 := Lib.hid hB0
    have hB := Below.refl W.heap.size W
    obtain ⟨c0, c1, c2, c3, c4, c5, c6, c7, c8, c9⟩ := hK W hB
    clear hW hB0 hK
    have HL := Lib.hid (hw.below HB0.out)
    have HL2 := Lib.hid (hl.below HB0.out)
    have HT := Lib.hid (ht.below HB0.out)
    have HRg := Lib.hid (hr.below HB0.out)
    clear hw hl ht hr hm hcp HRt0 hright
    go_enter Tryz.func9, Tryz.ntmps9
    go_wp2_with fail
    rw [← HW.out]
    refine (HRt.out _ (HL.out.below hB) (HL2.out.below hB)).mono ?_
    rintro e wk ⟨rfl, hb⟩
    replace hB := hB.trans (hb.mono hB.size)
    clear hb
    obtain ⟨c0, c1, c2, c3, c4, c5, c6, c7, c8, c9⟩ := HK.out _ hB
    go_wp2_with fail
    refine (HS.out _).mono ?_
    rintro e wk ⟨rfl, hb⟩
    replace hB := hB.trans (hb.mono hB.size)
    clear hb
    obtain ⟨c0, c1, c2, c3, c4, c5, c6, c7, c8, c9⟩ := HK.out _ hB
    go_wp2_with fail
    refine (HAw.out _ (HT.out.below hB) (HRg.out.below hB)).mono ?_
    rintro e wk ⟨rfl, hb⟩
    replace hB := hB.trans (hb.mono hB.size)
    clear hb
    obtain ⟨c0, c1, c2, c3, c4, c5, c6, c7, c8, c9⟩ := HK.out _ hB
    go_wp2_with fail
    go_ret
    exact ⟨rfl, HB0.out.trans (hB.mono HB0.out.size)⟩
  case pos =>
  rw [decide_eq_true hfew] at HS
  have HChk := Lib.hid (fun w => scheck_any s w (by omega))
  rcases lev_cases s (by omega) with ⟨hc, -⟩ | ⟨r, hr', -, -, hc, -⟩
  · obtain ⟨at_, bits, co, fi, cu, ho, lo, hi, sn, A, n, c⟩ := f
    have HRt := Lib.hid (show ∀ w', FW w' ⟨at_, bits, co, fi, cu, ho, lo, hi, sn, A, n, c⟩ wl → InN w' A' n' H L → Calls Tryz.prog 21 #[.agg #[.int .i64 at_, .int .i64 bits, .int .i64 co, .int .i64 fi, .int .i64 cu, .int .i64 ho, .int .i64 lo, .int .i64 hi, .bool sn, .slice A n c], .slice A' n' c'] w' fun e w'' => e = .returned (.bool true) ∧ Below w'.heap.size w' w'' from HRt0.out)
    show Calls Tryz.prog 9 #[.agg #[.int .i64 at_, .int .i64 bits, .int .i64 co, .int .i64 fi, .int .i64 cu, .int .i64 ho, .int .i64 lo, .int .i64 hi, .bool sn, .slice A n c], .slice A' n' c', .string s] w fun e w' => e = .returned (.bool true) ∧ Below w.heap.size w w'
    generalize chkR s.data.toList = q at *
    have g1 : (q == 0) = false := by simpa using hc
    have g2 : (q != 0) = true := by simpa using hc
    obtain ⟨W, hW⟩ : ∃ W, W = w.alloc (.cells #[.int .i64 at_, .int .i64 bits, .int .i64 co, .int .i64 fi, .int .i64 cu, .int .i64 ho, .int .i64 lo, .int .i64 hi, .bool sn, .slice A n c] 24) := ⟨_, rfl⟩
    obtain ⟨hB0, hK⟩ := fbox at_ bits co fi cu ho lo hi sn A n c w W hW
    have HK := Lib.hid hK
    have HW := Lib.hid hW
    have HB0 := Lib.hid hB0
    have hB := Below.refl W.heap.size W
    obtain ⟨c0, c1, c2, c3, c4, c5, c6, c7, c8, c9⟩ := hK W hB
    clear hW hB0 hK
    have HL := Lib.hid (hw.below HB0.out)
    have HL2 := Lib.hid (hl.below HB0.out)
    have HT := Lib.hid (ht.below HB0.out)
    have HRg := Lib.hid (hr.below HB0.out)
    clear hw hl ht hr hm hcp HRt0 hright hc
    go_enter Tryz.func9, Tryz.ntmps9
    go_wp2_with fail
    rw [← HW.out]
    refine (HRt.out _ (HL.out.below hB) (HL2.out.below hB)).mono ?_
    rintro e wk ⟨rfl, hb⟩
    replace hB := hB.trans (hb.mono hB.size)
    clear hb
    obtain ⟨c0, c1, c2, c3, c4, c5, c6, c7, c8, c9⟩ := HK.out _ hB
    go_wp2_with fail
    refine (HS.out _).mono ?_
    rintro e wk ⟨rfl, hb⟩
    replace hB := hB.trans (hb.mono hB.size)
    clear hb
    obtain ⟨c0, c1, c2, c3, c4, c5, c6, c7, c8, c9⟩ := HK.out _ hB
    go_wp2_with fail
    refine (HChk.out _).mono ?_
    rintro e wk ⟨rfl, hb⟩
    replace hB := hB.trans (hb.mono hB.size)
    clear hb
    obtain ⟨c0, c1, c2, c3, c4, c5, c6, c7, c8, c9⟩ := HK.out _ hB
    go_wp2_with fail
    refine (HAw.out _ (HT.out.below hB) (HRg.out.below hB)).mono ?_
    rintro e wk ⟨rfl, hb⟩
    replace hB := hB.trans (hb.mono hB.size)
    clear hb
    obtain ⟨c0, c1, c2, c3, c4, c5, c6, c7, c8, c9⟩ := HK.out _ hB
    go_wp2_with fail
    go_ret
    exact ⟨rfl, HB0.out.trans (hB.mono HB0.out.size)⟩
  · rw [hc] at HChk
    have hz : SzR 120 r := size_SzR hr' hfew (by decide)
    subst hr'
    have ha : aloneE (f.fea wl) L = 0 := by
      unfold rightF at hright
      simp at hright
      exact hright.2
    obtain ⟨hA, -, hc0, hc1, -, hl0, hl1, hl2, -⟩ := alone_ok ha
    have hC := points_ok hA hc0 hc1
    have hf := raw_fit ha hz (by decide)
    have hkl := keeps_level (r := r) ha
    have hin := made_in hC hl1 r
    have hkb := kept_of ha hin.1 hin.2
    have HRaw0 := Lib.hid (fun w hw hl ht hr => praw_any f wl A' n' c' H L (sR r) w hw hl hm hn hfew ht hr)
    rw [hf.1, hf.2] at HRaw0
    have HW0 := Lib.hid (fun w hl ht hr => praw_any fcW [] A' n' c' H L (sR r) w (fw_whole w) hl hm hn hfew ht hr)
    have hfw := raw_fit (F := feaW) (whole_ok hA) hz (by decide)
    rw [show fcW.fea [] = feaW from rfl, hfw.1, hfw.2, show pointsC feaW.cu L = straightC by unfold pointsC; exact if_pos rfl] at HW0
    have HWi := Lib.hid (fun w => rwithin_fit hz (by decide) (by decide) w)
    have he8 := eight_fit hz (by decide) (by decide)
    have HEi := Lib.hid (fun w ht hr => veight_any (sR (clampR r)) w (by
      have := (clamp_sz hz (by decide)).len
      omega) ht hr)
    rw [he8] at HEi
    have HBo := Lib.hid (fun w => sbot_fit (r := r) w hs)
    replace HW0 := Lib.hid (show ∀ w', InN w' A' n' H L → Tab w' → Rng w' → Calls Tryz.prog 15 #[.agg #[.int .i64 0, .int .i64 8, .int .i64 0, .int .i64 0, .int .i64 0, .int .i64 0, .int .i64 0, .int .i64 255, .bool false, .slice none 0 0], .slice A' n' c', .string (sR r)] w' fun e w'' => e = .returned (.tuple #[.int .i64 (madeR 0 255 straightC r), .int .i64 0]) ∧ Below w'.heap.size w' w'' from HW0.out)
    obtain ⟨M, hM⟩ : ∃ M, madeR (f.fea wl).lo (f.fea wl).hi (pointsC (f.fea wl).cu L) r = M := ⟨_, rfl⟩
    rw [hM] at hkl hin hkb HRaw0
    obtain ⟨hbe, hKB⟩ := hkb
    have HByt0 := Lib.hid (fun w hw => pbytes_any f wl M w hw)
    rw [hbe] at HByt0
    have HLv0 := Lib.hid (fun w hw hl => pLevel_any f wl A' n' c' H L M w hw hl hm hn hcp)
    have HEnd := Lib.hid (show (levelE (f.fea wl) L M = 12 ∧ (sI (r.den : Int) == (⟨#[49]⟩ : ByteArray)) = false) ∨ (levelE (f.fea wl) L M = 0 ∧ ∃ SK, (∀ w, Calls Tryz.prog 30 #[.int .i64 (levelV (f.fea wl) L M)] w fun e w' => e = .returned (.string SK) ∧ Below w.heap.size w w') ∧ (∀ w, FW w f wl → InN w A' n' H L → Tab w → Rng w → Calls Tryz.prog 15 #[f.val, .slice A' n' c', .string SK] w fun e w' => e = .returned (.tuple #[.int .i64 M, .int .i64 0]) ∧ Below w.heap.size w w')) by
      rcases hkl with ⟨h1, h2⟩ | ⟨h1, k, k0, k1, h2, h3, h4⟩
      · refine .inl ⟨h1, ?_⟩
        cases hb : (sI (r.den : Int) == (⟨#[49]⟩ : ByteArray)) with
        | false => rfl
        | true =>
          exfalso
          have e := (MapKept.bytes_beq _ _).1 hb
          have e1 : sI (1 : Int) = (⟨#[49]⟩ : ByteArray) := one_txtK
          have := sI_inj (e.trans e1.symm)
          omega
      · refine .inr ⟨h1, sR (k : Rat), ?_, ?_⟩
        · rw [h2]; exact fun w => swhole_fit (x := k) (by omega) (by omega) w
        · intro w hw hl ht hr
          have hzk : SzR 5 ((k : Int) : Rat) := SzR.int (by omega) (by decide)
          have := praw_any f wl A' n' c' H L (sR (k : Rat)) w hw hl hm hn (by have := hzk.len; omega) ht hr
          rw [h3, h4] at this
          exact this)
    generalize levelV (f.fea wl) L M = LV at *
    generalize levelE (f.fea wl) L M = LE at *
    generalize bytesV (f.fea wl) M = BV at *
    generalize madeR 0 255 straightC r = X at *
    obtain ⟨hq1, hlen, hby, mk, hmk0, hmk1, hmkM, hmkb⟩ := hKB
    obtain ⟨at_, bits, co, fi, cu, ho, lo, hi, sn, A, n, c⟩ := f
    have HRt := Lib.hid (show ∀ w', FW w' ⟨at_, bits, co, fi, cu, ho, lo, hi, sn, A, n, c⟩ wl → InN w' A' n' H L → Calls Tryz.prog 21 #[.agg #[.int .i64 at_, .int .i64 bits, .int .i64 co, .int .i64 fi, .int .i64 cu, .int .i64 ho, .int .i64 lo, .int .i64 hi, .bool sn, .slice A n c], .slice A' n' c'] w' fun e w'' => e = .returned (.bool true) ∧ Below w'.heap.size w' w'' from HRt0.out)
    have HRaw := Lib.hid (show ∀ w', FW w' ⟨at_, bits, co, fi, cu, ho, lo, hi, sn, A, n, c⟩ wl → InN w' A' n' H L → Tab w' → Rng w' → Calls Tryz.prog 15 #[.agg #[.int .i64 at_, .int .i64 bits, .int .i64 co, .int .i64 fi, .int .i64 cu, .int .i64 ho, .int .i64 lo, .int .i64 hi, .bool sn, .slice A n c], .slice A' n' c', .string (sR r)] w' fun e w'' => e = .returned (.tuple #[.int .i64 M, .int .i64 0]) ∧ Below w'.heap.size w' w'' from HRaw0.out)
    have HByt := Lib.hid (show ∀ w', FW w' ⟨at_, bits, co, fi, cu, ho, lo, hi, sn, A, n, c⟩ wl → Calls Tryz.prog 27 #[.agg #[.int .i64 at_, .int .i64 bits, .int .i64 co, .int .i64 fi, .int .i64 cu, .int .i64 ho, .int .i64 lo, .int .i64 hi, .bool sn, .slice A n c], .int .i64 M] w' fun e w'' => ∃ A2 n2 c2, e = .returned (.tuple #[.slice A2 n2 c2, .int .i64 0]) ∧ Is w'' A2 n2 BV ∧ Below w'.heap.size w' w'' from HByt0.out)
    have HLv := Lib.hid (show ∀ w', FW w' ⟨at_, bits, co, fi, cu, ho, lo, hi, sn, A, n, c⟩ wl → InN w' A' n' H L → Calls Tryz.prog 25 #[.agg #[.int .i64 at_, .int .i64 bits, .int .i64 co, .int .i64 fi, .int .i64 cu, .int .i64 ho, .int .i64 lo, .int .i64 hi, .bool sn, .slice A n c], .slice A' n' c', .int .i64 M] w' fun e w'' => e = .returned (.tuple #[.int .i64 LV, .int .i64 LE]) ∧ Below w'.heap.size w' w'' from HLv0.out)
    replace HEnd := Lib.hid (show (LE = 12 ∧ (sI (r.den : Int) == (⟨#[49]⟩ : ByteArray)) = false) ∨ (LE = 0 ∧ ∃ SK, (∀ w, Calls Tryz.prog 30 #[.int .i64 LV] w fun e w' => e = .returned (.string SK) ∧ Below w.heap.size w w') ∧ (∀ w', FW w' ⟨at_, bits, co, fi, cu, ho, lo, hi, sn, A, n, c⟩ wl → InN w' A' n' H L → Tab w' → Rng w' → Calls Tryz.prog 15 #[.agg #[.int .i64 at_, .int .i64 bits, .int .i64 co, .int .i64 fi, .int .i64 cu, .int .i64 ho, .int .i64 lo, .int .i64 hi, .bool sn, .slice A n c], .slice A' n' c', .string SK] w' fun e w'' => e = .returned (.tuple #[.int .i64 M, .int .i64 0]) ∧ Below w'.heap.size w' w'')) from HEnd.out)
    show Calls Tryz.prog 9 #[.agg #[.int .i64 at_, .int .i64 bits, .int .i64 co, .int .i64 fi, .int .i64 cu, .int .i64 ho, .int .i64 lo, .int .i64 hi, .bool sn, .slice A n c], .slice A' n' c', .string (sR r)] w fun e w' => e = .returned (.bool true) ∧ Below w.heap.size w w'
    have d1 : decide (M < lo) = false := decide_eq_false (by have : lo ≤ M := hin.1; omega)
    have d2 : decide (hi < M) = false := decide_eq_false (by have : M ≤ hi := hin.2; omega)
    replace hq1 : Int.tdiv bits 8 = (BV.length : Int) := hq1
    have w1 : IntKind.i64.wrap (BV.length : Int) = (BV.length : Int) := IntWalk.i64_in _ (by omega)
    have HBy := Lib.hid hby
    have HMk := Lib.hid (And.intro hmk0 (And.intro hmk1 (And.intro hmkM hmkb)))
    obtain ⟨W, hW⟩ : ∃ W, W = w.alloc (.cells #[.int .i64 at_, .int .i64 bits, .int .i64 co, .int .i64 fi, .int .i64 cu, .int .i64 ho, .int .i64 lo, .int .i64 hi, .bool sn, .slice A n c] 24) := ⟨_, rfl⟩
    obtain ⟨hB0, hK⟩ := fbox at_ bits co fi cu ho lo hi sn A n c w W hW
    have HK := Lib.hid hK
    have HW := Lib.hid hW
    have HB0 := Lib.hid hB0
    have hB := Below.refl W.heap.size W
    obtain ⟨c0, c1, c2, c3, c4, c5, c6, c7, c8, c9⟩ := hK W hB
    clear hW hB0 hK
    have HL := Lib.hid (hw.below HB0.out)
    have HL2 := Lib.hid (hl.below HB0.out)
    have HT := Lib.hid (ht.below HB0.out)
    have HRg := Lib.hid (hr.below HB0.out)
    clear hw hl ht hr hm hcp HRt0 hright HRaw0 HByt0 HLv0 hM hkl hin hbe ha hA hc0 hc1 hl0 hl1 hl2 hC hf hfw he8 hc hfew hby hmk0 hmk1 hmkM hmkb hs hz
    generalize sR (clampR r) = S2 at *
    generalize sR r = S at *
    generalize sI (r.den : Int) = SD at *
    go_enter Tryz.func9, Tryz.ntmps9
    go_wp2_with fail
    rw [← HW.out]
    refine (HRt.out _ (HL.out.below hB) (HL2.out.below hB)).mono ?_
    rintro e wk ⟨rfl, hb⟩
    replace hB := hB.trans (hb.mono hB.size)
    clear hb
    obtain ⟨c0, c1, c2, c3, c4, c5, c6, c7, c8, c9⟩ := HK.out _ hB
    go_wp2_with fail
    refine (HS.out _).mono ?_
    rintro e wk ⟨rfl, hb⟩
    replace hB := hB.trans (hb.mono hB.size)
    clear hb
    obtain ⟨c0, c1, c2, c3, c4, c5, c6, c7, c8, c9⟩ := HK.out _ hB
    go_wp2_with fail
    refine (HChk.out _).mono ?_
    rintro e wk ⟨rfl, hb⟩
    replace hB := hB.trans (hb.mono hB.size)
    clear hb
    obtain ⟨c0, c1, c2, c3, c4, c5, c6, c7, c8, c9⟩ := HK.out _ hB
    go_wp2_with fail
    refine (HRaw.out _ (HL.out.below hB) (HL2.out.below hB) (HT.out.below hB) (HRg.out.below hB)).mono ?_
    rintro e wk ⟨rfl, hb⟩
    replace hB := hB.trans (hb.mono hB.size)
    clear hb
    obtain ⟨c0, c1, c2, c3, c4, c5, c6, c7, c8, c9⟩ := HK.out _ hB
    go_wp2_with fail
    refine (HByt.out _ (HL.out.below hB)).mono ?_
    rintro e wk ⟨A2, n2, d2', rfl, hi1, hb⟩
    replace hB := hB.trans (hb.mono hB.size)
    clear hb
    obtain ⟨c0, c1, c2, c3, c4, c5, c6, c7, c8, c9⟩ := HK.out _ hB
    obtain ⟨rfl, _⟩ := id hi1
    have HIs := Lib.hid hi1
    have HBk := Lib.hid hB
    clear hi1 hB HRt HRaw HByt HS HChk
    go_wp2_with fail
    go_loopw [10, 76] (fun i1 i2 wr => ∃ (j : Nat) (v : Int), j ≤ BV.length ∧ v = mk j ∧ i1 = .int .i64 v ∧ i2 = .int .i64 (j : Int) ∧ Below wk.heap.size wk wr) (fun _ i2 _ => BV.length - (intOf i2).toNat)
    case atStart => exact ⟨0, 0, by omega, HMk.out.1.symm, rfl, rfl, Below.refl _ _⟩
    case round =>
      obtain ⟨j, v, hj, hv, rfl, rfl, hBr⟩ := hrel
      have HBr := Lib.hid hBr
      have hmv := HMk.out.2.2.2 j
      rw [← hv] at hmv
      by_cases hlt : j < BV.length
      · obtain ⟨b, o, rfl, hbl, hc1⟩ := (HIs.out.below hBr).at1 hlt
        have hs := HMk.out.2.1 j hlt
        have hx := HBy.out j hlt
        rw [← hv] at hs
        have HN := Lib.hid hs
        generalize BV[j] = x at *
        have i0 : (0 : Int) ≤ (j : Int) := by omega
        have i1 : (j : Int) < (BV.length : Int) := by omega
        have d3 : decide (x < 0) = false := decide_eq_false (by omega)
        have d4 : decide (255 < x) = false := decide_eq_false (by omega)
        have w2 : IntKind.i64.wrap (256 * v) = 256 * v := IntWalk.i64_in _ (by omega)
        have w3 : IntKind.i64.wrap (256 * v + x) = 256 * v + x := IntWalk.i64_in _ (by omega)
        have w4 : IntKind.i64.wrap ((j : Int) + 1) = (j : Int) + 1 := IntWalk.i64_in _ (by omega)
        clear hs hv hBr hmv hx
        go_wp2_with fail
        go_roundw
        case rel => exact ⟨j + 1, _, by omega, HN.out.symm, rfl, by go_num, HBr.out⟩
        case measure => simp [intOf]; omega
      · obtain rfl : j = BV.length := by omega
        rw [HMk.out.2.2.1] at hv
        subst hv
        have hB := HBk.out.trans (hBr.mono HBk.out.size)
        clear c0 c1 c2 c3 c4 c5 c6 c7 c8 c9 hmv hBr
        obtain ⟨c0, c1, c2, c3, c4, c5, c6, c7, c8, c9⟩ := HK.out _ hB
        go_wp2_with fail
        refine (HW0.out _ (HL2.out.below (hB.alloc hB.size _)) (HT.out.below (hB.alloc hB.size _)) (HRg.out.below (hB.alloc hB.size _))).mono ?_
        rintro e wm ⟨rfl, hb⟩
        replace hB := (hB.alloc hB.size _).trans (hb.mono (hB.alloc hB.size _).size)
        clear hb
        obtain ⟨c0, c1, c2, c3, c4, c5, c6, c7, c8, c9⟩ := HK.out _ hB
        go_wp2_with fail
        refine (HWi.out _).mono ?_
        rintro e wk ⟨rfl, hb⟩
        replace hB := hB.trans (hb.mono hB.size)
        clear hb
        obtain ⟨c0, c1, c2, c3, c4, c5, c6, c7, c8, c9⟩ := HK.out _ hB
        go_wp2_with fail
        refine (HEi.out _ (HT.out.below hB) (HRg.out.below hB)).mono ?_
        rintro e wk ⟨rfl, hb⟩
        replace hB := hB.trans (hb.mono hB.size)
        clear hb
        obtain ⟨c0, c1, c2, c3, c4, c5, c6, c7, c8, c9⟩ := HK.out _ hB
        go_wp2_with fail
        refine (HLv.out _ (HL.out.below hB) (HL2.out.below hB)).mono ?_
        rintro e wk ⟨rfl, hb⟩
        replace hB := hB.trans (hb.mono hB.size)
        clear hb
        obtain ⟨c0, c1, c2, c3, c4, c5, c6, c7, c8, c9⟩ := HK.out _ hB
        rcases HEnd.out with ⟨rfl, hsd⟩ | ⟨rfl, SK, hwk, hrk⟩
        · have hsd2 : (SD != (⟨#[49]⟩ : ByteArray)) = true := by rw [bne, hsd]; rfl
          have hsd3 : ¬ SD.toList = [49] := fun h => by
            rw [ByteArray.toList_eq] at h
            have e : SD = (⟨#[49]⟩ : ByteArray) := bs_eq h
            rw [e] at hsd
            exact absurd hsd (by decide)
          go_wp2_with fail
          refine (HBo.out _).mono ?_
          rintro e wk ⟨rfl, hb⟩
          replace hB := hB.trans (hb.mono hB.size)
          clear hb
          go_wp2_with fail
          refine (HAw.out _ (HT.out.below hB) (HRg.out.below hB)).mono ?_
          rintro e wk ⟨rfl, hb⟩
          replace hB := hB.trans (hb.mono hB.size)
          clear hb
          go_wp2_with fail
          go_ret
          exact ⟨ret_b (by simpa using hsd3), HB0.out.trans (hB.mono HB0.out.size)⟩
        · have HWk := Lib.hid hwk
          have HRk := Lib.hid hrk
          clear hwk hrk
          go_wp2_with fail
          replace hB := below_drewN hB 1
          obtain ⟨c0, c1, c2, c3, c4, c5, c6, c7, c8, c9⟩ := HK.out _ hB
          go_region_held3 (fun w' => w'.cell? ⟨w.heap.size, 0, none⟩ = some (.int .i64 at_) ∧ w'.cell? ⟨w.heap.size, 1, none⟩ = some (.int .i64 bits) ∧ w'.cell? ⟨w.heap.size, 2, none⟩ = some (.int .i64 co) ∧ w'.cell? ⟨w.heap.size, 3, none⟩ = some (.int .i64 fi) ∧ w'.cell? ⟨w.heap.size, 4, none⟩ = some (.int .i64 cu) ∧ w'.cell? ⟨w.heap.size, 5, none⟩ = some (.int .i64 ho) ∧ w'.cell? ⟨w.heap.size, 6, none⟩ = some (.int .i64 lo) ∧ w'.cell? ⟨w.heap.size, 7, none⟩ = some (.int .i64 hi) ∧ w'.cell? ⟨w.heap.size, 8, none⟩ = some (.bool sn) ∧ w'.cell? ⟨w.heap.size, 9, none⟩ = some (.slice A n c)) (exact ⟨c0, c1, c2, c3, c4, c5, c6, c7, c8, c9⟩) (first | (go_at_call 30; refine (HWk.out _).mono ?_; rintro e wk ⟨rfl, hb⟩; replace hB := hB.trans (hb.mono hB.size); clear hb; obtain ⟨c0, c1, c2, c3, c4, c5, c6, c7, c8, c9⟩ := HK.out _ hB) | (go_at_call 15; refine (HRk.out _ (HL.out.below hB) (HL2.out.below hB) (HT.out.below hB) (HRg.out.below hB)).mono ?_; rintro e wk ⟨rfl, hb⟩; replace hB := hB.trans (hb.mono hB.size); clear hb; obtain ⟨c0, c1, c2, c3, c4, c5, c6, c7, c8, c9⟩ := HK.out _ hB))
          go_wp2_with fail
          refine (HAw.out _ (HT.out.below hB) (HRg.out.below hB)).mono ?_
          rintro e wk ⟨rfl, hb⟩
          replace hB := hB.trans (hb.mono hB.size)
          clear hb
          go_wp2_with fail
          go_ret
          exact ⟨rfl, HB0.out.trans (hB.mono HB0.out.size)⟩
theorem profile_keeps (w : World) (g : FC) (hg : g.good w) (A : Option Addr) (n c : Nat) (H : List Hd) (hl : shH.In w A n H) (hgs : ∀ g ∈ H, (∃ l, shP.In w g.A g.n l) ∧ g.n ≤ maxLen ∧ g.n ≤ g.c ∧ g.c ≤ maxLen) (hn : n ≤ maxLen) (s : ByteArray) (hs : s.size ≤ maxLen) (hL : Laid w) :
    Calls Tryz.prog 9 #[.agg (shF.cs g).toArray, .slice A n c, .string s] w fun e w' => e = .returned (.bool true) ∧ Below w.heap.size w w' := by
  obtain ⟨⟨wl, hw⟩, _⟩ := hg
  obtain ⟨L, h⟩ := curves_of hl (fun g hg => ⟨(hgs g hg).1, (hgs g hg).2.1⟩)
  exact pkeeps_walk w g wl A n c H L s hw h (fun g hh => by have := (hgs g hh).2.1; unfold maxLen at this; omega) (fun g hh => by have := (hgs g hh).2.2; unfold maxLen at this; omega) (by unfold maxLen at hn; omega) (by unfold maxLen at hs; omega) hL.1 hL.2
end Go.Proofs.YtpinmgoeapakdaaGreatDoor

namespace Go.Proofs.YtpinmgoeapakdaaGreatDoor.profileKeepsP
open Go.ChangeShapes Go.ChangeMaps Go.WideShapes Go.ChangeAt Go.RowKit

set_option maxRecDepth 100000 in
theorem lifted (os : Os) (started : os.Started) (H : Type) (enc : TypeId × Value → H) :
    ReturnsInHanded {} Tryz.checked os 9 .any (fun w args => (Rows.profileKeepsSpec.pre enc Tryz.prog Tryz.f9 [] false w args ∧ laidMetH Tryz.prog Rows.profileKeepsRow.laid w) ∧ sizedMet enc Tryz.prog Tryz.f9 (OpenSpec.ofChange Rows.profileKeepsSpec) false w args)
      (Rows.profileKeepsSpec.post enc Tryz.prog Tryz.f9 false true false false) := by
  refine returnsInHanded_of_change_and (C := Tryz.checked) (X := fun w _ => laidMetH Tryz.prog Rows.profileKeepsRow.laid w) (fun _ _ _ hh h => h.of_heap hh) own_ started (by kernel_rfl) Tryz.func9
    (ChangeSpec.witness_at (enc := enc) (C := Tryz.checked) (os := os) (X := fun w _ => laidMetH Tryz.prog Rows.profileKeepsRow.laid w) false (laidWorld os) #[.agg #[.int .i64 0, .int .i64 0, .int .i64 0, .int .i64 0, .int .i64 0, .int .i64 0, .int .i64 0, .int .i64 0, .bool false, .slice none 0 0], .slice none 0 0, .string ⟨#[]⟩] 8 rfl (by kernel_rfl) (by kernel_rfl) (by kernel_rfl) (by kernel_rfl) (by kernel_rfl) (laid_met os _)) ?_
  intro W base args ds gs before hval0 hW _ hWt hL _
  have hval : ∀ (j : Nat) t v, Tryz.f9.params[j]? = some t → args[j]? = some v → Value.okWide Tryz.prog W .any base t v := hval0
  have hW' := hW
  obtain ⟨p, q, hA0, hV, rfl, hfz, hnd⟩ := hW
  have hA : DataW.TrodAll enc Tryz.prog W 0 (fun _ => true) true Tryz.f9.params.toList args.toList ds p := hA0
  rw [Tryz.params9] at hA hval hWt
  obtain ⟨v0, vs0, d0, ds0, p0, q0, hargs, rfl, rfl, h0, r0⟩ := trodAll_cons hA
  obtain ⟨v1, vs1, d1, ds1, p1, q1, rfl, rfl, rfl, h1, r1⟩ := trodAll_cons r0
  obtain ⟨v2, vs2, d2, ds2, p2, q2, rfl, rfl, rfl, h2, r2⟩ := trodAll_cons r1
  obtain ⟨rfl, rfl, rfl⟩ := trodAll_nil r2
  obtain rfl : args = #[v0, v1, v2] := by cases args; simp_all
  obtain ⟨rfl, rfl⟩ := trodVars_none hV
  have lt0 : ∀ x ∈ p0, x.block < W.heap.size := by obtain ⟨m, hm⟩ := h0; exact DataW.trod_lt m _ _ _ hm
  obtain ⟨cs0, fuel0, y0, rfl, hf0⟩ := agg_open Tryz.underlying24 (hval 0 24 v0 rfl rfl) h0
  obtain ⟨g0, rfl, hg0⟩ := feature_cells hf0
  have lt1 : ∀ x ∈ p1, x.block < W.heap.size := by obtain ⟨m, hm⟩ := h1; exact DataW.trod_lt m _ _ _ hm
  obtain ⟨A1, n1, c1, rfl⟩ := okWide_slice Tryz.underlying25 (hval 1 25 v1 rfl rfl)
  have k1 := h1
  obtain ⟨fuel1, hf1⟩ := k1
  obtain ⟨l1, hl1, hg1, hn1, hx1⟩ := open_rows shH Tryz.underlying25 (by kernel_rfl : Tryz.prog.cellsOf 69 = shH.z) (by decide) ⟨none, 0, 0⟩ _ (fun _ _ _ h => curve_cells2 h) hf1
  obtain ⟨x2, rfl, rfl, rfl, w2⟩ := open_string Tryz.underlying26 (hval 2 26 v2 rfl rfl) h2
  clear hA0 hval0 hWt
  simp only [List.append_nil] at hW'
  refine (profile_keeps W g0 hg0 A1 n1 c1 l1 hl1 hg1 hn1 x2 w2 (laid_of hL)).mono fun e W' ⟨he, bel⟩ => ?_
  subst he
  exact ⟨_, rfl, _, _, _, [], _, [], hW', trodAll_mk1 (shut_bool Tryz.underlying4 _), (trodAll_cons_mk (Below.trod laidOut (by kernel_rfl) (of_decide_eq_true (by kernel_rfl)) h0 bel lt0) (trodAll_cons_mk (Below.trod laidOut (by kernel_rfl) (of_decide_eq_true (by kernel_rfl)) h1 bel lt1) (trodAll_cons_mk (shut_string Tryz.underlying26 w2) trodAll_mk0))), rfl, bel.frame _, fun h => by cases h⟩

theorem over : Rows.profileKeepsRow.holds Tryz.pinned (OpenSpec.ofChange Rows.profileKeepsSpec) :=
  OpenClaim.holds_of_wide 9 Tryz.f9 rfl rfl rfl rfl rfl rfl rfl ⟨rfl, rfl, rfl, rfl, rfl⟩ rfl rfl rfl rfl rfl (by kernel_rfl) Tryz.func9 profileKeeps_facts
    (of_decide_eq_true (by kernel_rfl)) (by unfold Func.isWrapper; rw [if_neg (of_decide_eq_false (by kernel_rfl))]; exact ⟨rfl, rfl⟩)
    (fun os started H enc _ => lifted os started H enc)

theorem noStandIn : ∀ t ∈ Tryz.f9.params.toList, Tryz.prog.wantsStandIn t = false := by
  rw [Tryz.params9]
  intro t ht
  simp only [List.mem_cons, List.not_mem_nil, or_false] at ht
  rcases ht with rfl | rfl | rfl <;> kernel_rfl

theorem proved : Rows.ProfileKeepsCardSaid :=
  Claim7.holds_tied_plain_at .later [] [.data, .data, .data, .data, .sentinel, .sentinel, .pinned] true (true, "c3d8ae1918c4f8ff505efee564eec2d4328f310576adbccc116a5ab88642d2ca") true
    over (fun _ h => by cases h) (by kernel_rfl) (fun _ h => by cases h) profileKeeps_row_tie rfl ⟨rfl, rfl⟩ (by kernel_rfl) rfl
    (fun f fn hf hfn => by
      obtain rfl : f = 9 := Option.some.inj ((show Tryz.prog.funcNamed "luminaire/luminairelaw10.ProfileKeeps" = some 9 by kernel_rfl).symm.trans hf) |>.symm
      obtain rfl : fn = Tryz.f9 := (Option.some.inj (Tryz.func9.symm.trans hfn)).symm
      exact ⟨by kernel_rfl, fun j t ht => noStandIn t (Array.mem_toList_iff.2 (Array.mem_of_getElem? ht))⟩)
    (by kernel_rfl)
#print axioms proved
end Go.Proofs.YtpinmgoeapakdaaGreatDoor.profileKeepsP
