/- Lemmas and contracts of functions, joined for the claim: Law9b. -/
import Derived.Test.YtfehefafgghopaaGreatDoorGWalkA
namespace Go.Proofs.YtfehefafgghopaaGreatDoor
open Go.RowKit

def rightC (l : List PT) (s : ByteArray) : Bool := decide (l.length ≤ 40 ∧ s.size ≤ 120 ∧ errC l s = 0)
set_option maxHeartbeats 2000000 in
theorem cright_any (A : Option Addr) (n c : Nat) (l : List PT) (s : ByteArray) (w : World) (hl : shP.In w A n l) (hs : s.size ≤ 9223372036854775807) :
    Calls Tryz.prog 10 #[.slice A n c, .string s] w fun e w' => e = .returned (.bool (rightC l s)) ∧ Below w.heap.size w w' := by
  obtain ⟨rfl, _⟩ := id hl
  have HF := Lib.hid (fun w => r9few_any A l.length c w)
  have HF2 := Lib.hid (fun w => sfew_any s w hs)
  have hB := Below.refl w.heap.size w
  by_cases hfew : l.length ≤ 40
  · rw [decide_eq_true hfew] at HF
    by_cases hfs : s.size ≤ 120
    · rw [decide_eq_true hfs] at HF2
      have HA := Lib.hid (fun w hl => r9at_any A l.length c l s w hl (by omega) (by omega))
      have HV := Lib.hid (show rightC l s = (errC l s == 0) by unfold rightC; rw [Bool.eq_iff_iff]; simp [hfew, hfs])
      have HL := Lib.hid hl
      clear hl
      generalize atC l s = a0 at *
      generalize errC l s = e0 at *
      go_enter Tryz.func10, Tryz.ntmps10
      go_wp2_with fail
      refine (HF.out _).mono ?_
      rintro e wk ⟨rfl, hb⟩
      replace hB := hB.trans (hb.mono hB.size)
      clear hb
      go_wp2_with fail
      refine (HF2.out _).mono ?_
      rintro e wk ⟨rfl, hb⟩
      replace hB := hB.trans (hb.mono hB.size)
      clear hb
      go_wp2_with fail
      refine (HA.out _ (HL.out.below hB)).mono ?_
      rintro e wk ⟨rfl, hb⟩
      replace hB := hB.trans (hb.mono hB.size)
      clear hb
      go_wp2_with fail
      go_ret
      exact ⟨by rw [HV.out]; rfl, hB⟩
    · rw [decide_eq_false hfs] at HF2
      have HV := Lib.hid (show rightC l s = false by unfold rightC; simp [hfs])
      clear hl
      go_enter Tryz.func10, Tryz.ntmps10
      go_wp2_with fail
      refine (HF.out _).mono ?_
      rintro e wk ⟨rfl, hb⟩
      replace hB := hB.trans (hb.mono hB.size)
      clear hb
      go_wp2_with fail
      refine (HF2.out _).mono ?_
      rintro e wk ⟨rfl, hb⟩
      replace hB := hB.trans (hb.mono hB.size)
      clear hb
      go_wp2_with fail
      go_ret
      exact ⟨by rw [HV.out]; rfl, hB⟩
  · rw [decide_eq_false hfew] at HF
    have HV := Lib.hid (show rightC l s = false by unfold rightC; simp [hfew])
    clear hl
    go_enter Tryz.func10, Tryz.ntmps10
    go_wp2_with fail
    refine (HF.out _).mono ?_
    rintro e wk ⟨rfl, hb⟩
    replace hB := hB.trans (hb.mono hB.size)
    clear hb
    go_wp2_with fail
    go_ret
    exact ⟨by rw [HV.out]; rfl, hB⟩
theorem right_of {l : List PT} {s : ByteArray} (h : rightC l s = true) : l.length ≤ 40 ∧ OkC l ∧ ∃ r, s = sR r ∧ SzR 120 r ∧ InL r := by
  unfold rightC at h
  rw [decide_eq_true_eq] at h
  obtain ⟨h1, h2, h3⟩ := h
  unfold errC at h3
  by_cases hc : chkC l = 0
  · rw [if_neg (fun hn => hn hc)] at h3
    rcases lev_cases s (by omega) with ⟨hc, he⟩ | ⟨r, hr, hz, hv, hc', ⟨hi, he⟩ | ⟨hi, he⟩⟩
    · exact absurd (he ▸ h3) hc
    · omega
    · exact ⟨h1, chkC_ok.1 hc, r, hr, size_SzR hr h2 (by decide), hi⟩
  · rw [if_pos hc] at h3; exact absurd h3 hc
theorem sz_len {k : Nat} {r : Rat} (hz : SzR k r) (hk : k ≤ 400) : (sR r).size ≤ 1000 := Nat.le_trans hz.len (by omega)

theorem at_ok (A : Option Addr) (c : Nat) (l : List PT) (hok : OkC l) {k : Nat} {r : Rat} (hz : SzR k r) (hk : k ≤ 400) (hi : InL r) (w : World) (hl : shP.In w A l.length l) (ht : Tab w) :
    Calls Tryz.prog 12 #[.slice A l.length c, .string (sR r)] w fun e w' => e = .returned (.tuple #[.string (sR (valC l r)), .int .i64 0]) ∧ Below w.heap.size w w' := by
  have hf := hok.few
  have := cat_any A l.length c l (sR r) w hl (by omega) (sz_len hz hk) ht
  have he : errLv (sR r).data.toList = 0 := by
    unfold errLv
    rw [sR_list, chkR_fit (hz.fit (by omega)), if_neg (by decide), valR_rT, if_pos hi]
  have e1 : errC l (sR r) = 0 := by unfold errC; rw [chkC_ok.2 hok, if_neg (by decide), he]
  have e2 : atC l (sR r) = sR (valC l r) := by unfold atC; rw [e1, if_neg (by decide), sR_list, valR_rT]
  rw [e1, e2] at this
  exact this
theorem flip_ok_any (A : Option Addr) (c : Nat) (l : List PT) (hok : OkC l) (w : World) (hl : shP.In w A l.length l) :
    Calls Tryz.prog 26 #[.slice A l.length c] w fun e w' => ∃ r, e = .returned (.tuple #[r, .int .i64 0]) ∧ shP.Out 31 (flipC l) w r w' := by
  have hf := hok.few
  have := cflip_any A l.length c l w hl (by omega)
  rw [chkC_ok.2 hok, show flipT l = flipC l by unfold flipT; rw [chkC_ok.2 hok, if_neg (by decide)]] at this
  exact this
theorem tidy_ok_any (A : Option Addr) (c : Nat) (l : List PT) (hok : OkC l) (w : World) (hl : shP.In w A l.length l) (ht : Tab w) :
    Calls Tryz.prog 27 #[.slice A l.length c] w fun e w' => ∃ r, e = .returned (.tuple #[r, .int .i64 0]) ∧ shP.Out 31 (tidyC l) w r w' := by
  have hf := hok.few
  have := ctidy_any A l.length c l w hl (by omega) ht
  rw [chkC_ok.2 hok, show tidyT l = tidyC l by unfold tidyT; rw [chkC_ok.2 hok, if_neg (by decide)]] at this
  exact this
theorem slope_ok_any (A : Option Addr) (c : Nat) (l : List PT) (hok : OkC l) (w : World) (hl : shP.In w A l.length l) :
    Calls Tryz.prog 24 #[.slice A l.length c] w fun e w' => e = .returned (.tuple #[.int .i64 (slC l), .int .i64 0]) ∧ Below w.heap.size w w' := by
  have hf := hok.few
  have := cSlope_any A l.length c l w hl (by omega)
  rw [chkC_ok.2 hok, show slopeT l = slC l by unfold slopeT; rw [chkC_ok.2 hok, if_neg (by decide)]] at this
  exact this
theorem inv_ok_any (A : Option Addr) (c : Nat) (l : List PT) (hok : OkC l) (h1 : slC l ≠ 0) (h2 : wholeC l) (w : World) (hl : shP.In w A l.length l) :
    Calls Tryz.prog 25 #[.slice A l.length c] w fun e w' => ∃ r, e = .returned (.tuple #[r, .int .i64 0]) ∧ shP.Out 31 (turnC l) w r w' := by
  have hf := hok.few
  have := cinverse_any A l.length c l w hl (by omega)
  have e : errI l = 0 := by unfold errI; rw [chkC_ok.2 hok, if_neg (by decide), if_neg (by rintro (h | h); exact h1 h; exact h h2)]
  rw [e, show invT l = turnC l by unfold invT; rw [e, if_neg (by decide)]] at this
  exact this
theorem inv_no_any (A : Option Addr) (c : Nat) (l : List PT) (hok : OkC l) (h : slC l = 0 ∨ ¬ wholeC l) (w : World) (hl : shP.In w A l.length l) :
    Calls Tryz.prog 25 #[.slice A l.length c] w fun e w' => ∃ r, e = .returned (.tuple #[r, .int .i64 16]) ∧ Below w.heap.size w w' := by
  have hf := hok.few
  have := cinverse_any A l.length c l w hl (by omega)
  have e : errI l = 16 := by unfold errI; rw [chkC_ok.2 hok, if_neg (by decide), if_pos h]
  rw [e] at this
  exact this.mono fun e w' ⟨r, h, A, c, _, _, hb⟩ => ⟨r, h, hb⟩
theorem check_ok {k : Nat} {r : Rat} (hz : SzR k r) (hk : k ≤ 400) (w : World) :
    Calls Tryz.prog 13 #[.string (sR r)] w fun e w' => e = .returned (.int .i64 0) ∧ Below w.heap.size w w' := by
  have := scheck_any (sR r) w (Nat.le_trans (sz_len hz hk) (by decide))
  rw [sR_list, chkR_fit (hz.fit (by omega))] at this
  exact this
theorem same_ok (k : List PT) (B1 B2 : Option Addr) (d1 d2 : Nat) (w : World) (h : k.length ≤ 40) (h1 : shP.In w B1 k.length k) (h2 : shP.In w B2 k.length k) :
    Calls Tryz.prog 21 #[.slice B1 k.length d1, .slice B2 k.length d2] w fun e w' => e = .returned (.bool true) ∧ Below w.heap.size w w' := by
  have := r9same_any B1 B2 k.length k.length d1 d2 k k w h1 h2 (by omega) (by omega)
  rw [decide_eq_true rfl] at this
  exact this
set_option maxRecDepth 100000 in
set_option maxHeartbeats 8000000 in
theorem cflips_walk (w : World) (A : Option Addr) (n c : Nat) (l : List PT) (s : ByteArray) (hl : shP.In w A n l) (hs : s.size ≤ 9223372036854775807) (ht : Tab w) :
    Calls Tryz.prog 6 #[.slice A n c, .string s] w fun e w' => e = .returned (.bool true) ∧ Below w.heap.size w w' := by
  obtain ⟨rfl, _⟩ := id hl
  have HAw := Lib.hid (fun w ht => cawake_any w ht)
  have HR := Lib.hid (fun w hl => cright_any A l.length c l s w hl hs)
  have hB := Below.refl w.heap.size w
  have HT := Lib.hid ht
  have HL := Lib.hid hl
  clear hl
  by_cases hr : rightC l s = true
  · rw [hr] at HR
    obtain ⟨hn, hok, r, rfl, hz, hi⟩ := right_of hr
    have hv := hok.val_sz hz hi
    have hF := flip_ok hok
    have e1 : valC (flipC l) r = 65535 - valC l r := flip_val hok.up hok.two
    have hzz := hF.val_sz hz hi
    obtain ⟨hT', hTT, hTl, hTv⟩ := tidy_all hok
    have HA := Lib.hid (fun w hl ht => at_ok A c l hok hz (by decide) hi w hl ht)
    have HFl := Lib.hid (fun w hl => flip_ok_any A c l hok w hl)
    have HFl2 := Lib.hid (fun A c w hl => flip_ok_any A c (flipC l) hF w hl)
    have HAf := Lib.hid (fun A c w hl ht => at_ok A c (flipC l) hF hz (by decide) hi w hl ht)
    have HTd := Lib.hid (fun w hl ht => tidy_ok_any A c l hok w hl ht)
    have HTd2 := Lib.hid (fun A c w hl ht => tidy_ok_any A c (tidyC l) hT' w hl ht)
    have HAt := Lib.hid (fun A c w hl ht => at_ok A c (tidyC l) hT' hz (by decide) hi w hl ht)
    rw [hTv r] at HAt
    rw [flip_flip] at HFl2
    rw [hTT] at HTd2
    have HC1 := Lib.hid (fun w => check_ok hv (by decide) w)
    have HC2 := Lib.hid (fun w => check_ok hzz (by decide) w)
    have HP := Lib.hid (fun w => splus_fit hv hzz w (by decide) (by decide))
    have e2 : valC l r + valC (flipC l) r = ((65535 : Int) : Rat) := by rw [e1]; show _ = (65535 : Rat); grind
    rw [e2] at HP
    have HW := Lib.hid (fun w => swhole_fit (x := 65535) (by decide) (by decide) w)
    have i1 : (tidyC l).length ≤ 40 := by omega
    have HQ1 := Lib.hid (fun B1 B2 d1 d2 w h1 h2 => same_ok l B1 B2 d1 d2 w hn h1 h2)
    have HQ2 := Lib.hid (fun B1 B2 d1 d2 w h1 h2 => same_ok (tidyC l) B1 B2 d1 d2 w i1 h1 h2)
    have gl : decide (((tidyC l).length : Int) ≤ (l.length : Int)) = true := by rw [decide_eq_true_eq]; omega
    have gl2 : (tidyC l).length ≤ l.length := hTl
    clear hok hr hz hi hv hF e1 e2 hzz hT' hTT hTl hTv i1
    generalize flipC l = L1 at *
    generalize tidyC l = L2 at *
    generalize valC l r = y at *
    generalize valC L1 r = z at *
    generalize sR y = Y at *
    generalize sR z = Z at *
    generalize sR ((65535 : Int) : Rat) = K at *
    generalize sR r = V at *
    go_enter Tryz.func6, Tryz.ntmps6
    go_wp2_with fail
    refine (HR.out _ (HL.out.below hB)).mono ?_
    rintro e wk ⟨rfl, hb⟩
    replace hB := hB.trans (hb.mono hB.size)
    clear hb
    go_wp2_with fail
    refine (HA.out _ (HL.out.below hB) (HT.out.below hB)).mono ?_
    rintro e wk ⟨rfl, hb⟩
    replace hB := hB.trans (hb.mono hB.size)
    clear hb
    go_wp2_with fail
    refine (HFl.out _ (HL.out.below hB)).mono ?_
    rintro e wk ⟨q1, rfl, A1, c1, rfl, ho, hb⟩
    replace hB := hB.trans (hb.mono hB.size)
    have hi1 : shP.In wk A1 L1.length L1 := Sh.In.of_own ho rfl
    clear ho
    clear hb
    go_wp2_with fail
    refine (HFl2.out _ _ _ hi1).mono ?_
    rintro e wk ⟨q2, rfl, A2, c2, rfl, ho, hb⟩
    have hi1 := hi1.below hb
    replace hB := hB.trans (hb.mono hB.size)
    have hi2 : shP.In wk A2 l.length l := Sh.In.of_own ho rfl
    clear ho
    clear hb
    go_wp2_with fail
    refine (HAf.out _ _ _ hi1 (HT.out.below hB)).mono ?_
    rintro e wk ⟨rfl, hb⟩
    have hi2 := hi2.below hb
    replace hB := hB.trans (hb.mono hB.size)
    clear hi1
    clear hb
    go_wp2_with fail
    refine (HTd.out _ (HL.out.below hB) (HT.out.below hB)).mono ?_
    rintro e wk ⟨q3, rfl, A3, c3, rfl, ho, hb⟩
    have hi2 := hi2.below hb
    replace hB := hB.trans (hb.mono hB.size)
    have hi3 : shP.In wk A3 L2.length L2 := Sh.In.of_own ho rfl
    clear ho
    clear hb
    go_wp2_with fail
    refine (HTd2.out _ _ _ hi3 (HT.out.below hB)).mono ?_
    rintro e wk ⟨q4, rfl, A4, c4, rfl, ho, hb⟩
    have hi2 := hi2.below hb
    have hi3 := hi3.below hb
    replace hB := hB.trans (hb.mono hB.size)
    have hi4 : shP.In wk A4 L2.length L2 := Sh.In.of_own ho rfl
    clear ho
    clear hb
    go_wp2_with fail
    refine (HAt.out _ _ _ hi3 (HT.out.below hB)).mono ?_
    rintro e wk ⟨rfl, hb⟩
    have hi2 := hi2.below hb
    have hi3 := hi3.below hb
    have hi4 := hi4.below hb
    replace hB := hB.trans (hb.mono hB.size)
    clear hb
    go_wp2_with fail
    refine (HC1.out _).mono ?_
    rintro e wk ⟨rfl, hb⟩
    have hi2 := hi2.below hb
    have hi3 := hi3.below hb
    have hi4 := hi4.below hb
    replace hB := hB.trans (hb.mono hB.size)
    clear hb
    go_wp2_with fail
    refine (HC2.out _).mono ?_
    rintro e wk ⟨rfl, hb⟩
    have hi2 := hi2.below hb
    have hi3 := hi3.below hb
    have hi4 := hi4.below hb
    replace hB := hB.trans (hb.mono hB.size)
    clear hb
    go_wp2_with fail
    refine (HP.out _).mono ?_
    rintro e wk ⟨rfl, hb⟩
    have hi2 := hi2.below hb
    have hi3 := hi3.below hb
    have hi4 := hi4.below hb
    replace hB := hB.trans (hb.mono hB.size)
    clear hb
    go_wp2_with fail
    refine (HW.out _).mono ?_
    rintro e wk ⟨rfl, hb⟩
    have hi2 := hi2.below hb
    have hi3 := hi3.below hb
    have hi4 := hi4.below hb
    replace hB := hB.trans (hb.mono hB.size)
    clear hb
    go_wp2_with fail
    refine (HQ1.out _ _ _ _ _ hi2 (HL.out.below hB)).mono ?_
    rintro e wk ⟨rfl, hb⟩
    have hi3 := hi3.below hb
    have hi4 := hi4.below hb
    replace hB := hB.trans (hb.mono hB.size)
    clear hi2
    clear hb
    go_wp2_with fail
    refine (HQ2.out _ _ _ _ _ hi3 hi4).mono ?_
    rintro e wk ⟨rfl, hb⟩
    replace hB := hB.trans (hb.mono hB.size)
    clear hi3 hi4
    clear hb
    go_wp2_with fail
    refine (HAw.out _ (HT.out.below hB)).mono ?_
    rintro e wk ⟨rfl, hb⟩
    replace hB := hB.trans (hb.mono hB.size)
    clear hb
    go_wp2_with fail
    go_ret
    exact ⟨rfl, hB⟩
  · rw [Bool.not_eq_true] at hr
    rw [hr] at HR
    go_enter Tryz.func6, Tryz.ntmps6
    go_wp2_with fail
    refine (HR.out _ (HL.out.below hB)).mono ?_
    rintro e wk ⟨rfl, hb⟩
    replace hB := hB.trans (hb.mono hB.size)
    clear hb
    go_wp2_with fail
    refine (HAw.out _ (HT.out.below hB)).mono ?_
    rintro e wk ⟨rfl, hb⟩
    replace hB := hB.trans (hb.mono hB.size)
    clear hb
    go_wp2_with fail
    go_ret
    exact ⟨rfl, hB⟩
theorem curve_flips (w : World) (A : Option Addr) (n c : Nat) (l : List PT) (hl : shP.In w A n l) (_ : ∀ g ∈ l, goodP g) (_ : n ≤ maxLen) (s : ByteArray) (hs : s.size ≤ maxLen) (hL : Laid w) :
    Calls Tryz.prog 6 #[.slice A n c, .string s] w fun e w' => e = .returned (.bool true) ∧ Below w.heap.size w w' :=
  cflips_walk w A n c l s hl (by unfold maxLen at hs; omega) hL.1
set_option maxRecDepth 100000 in
set_option maxHeartbeats 8000000 in
theorem creturns_walk (w : World) (A : Option Addr) (n c : Nat) (l : List PT) (s s2 : ByteArray) (hl : shP.In w A n l) (hs : s.size ≤ 9223372036854775807) (hs2 : s2.size ≤ 9223372036854775807) (ht : Tab w) :
    Calls Tryz.prog 5 #[.slice A n c, .string s, .string s2] w fun e w' => e = .returned (.bool true) ∧ Below w.heap.size w w' := by
  obtain ⟨rfl, _⟩ := id hl
  have HAw := Lib.hid (fun w ht => cawake_any w ht)
  have HR := Lib.hid (fun w hl => cright_any A l.length c l s w hl hs)
  have HR2 := Lib.hid (fun w hl => cright_any A l.length c l s2 w hl hs2)
  have hB := Below.refl w.heap.size w
  have HT := Lib.hid ht
  have HL := Lib.hid hl
  clear hl
  by_cases hr : rightC l s = true
  · rw [hr] at HR
    by_cases hr2 : rightC l s2 = true
    · rw [hr2] at HR2
      obtain ⟨hn, hok, r, rfl, hz, hi⟩ := right_of hr
      obtain ⟨_, _, r2, rfl, hz2, hi2⟩ := right_of hr2
      have hv := hok.val_sz hz hi
      have hv2 := hok.val_sz hz2 hi2
      have HA := Lib.hid (fun w hl ht => at_ok A c l hok hz (by decide) hi w hl ht)
      have HA2 := Lib.hid (fun w hl ht => at_ok A c l hok hz2 (by decide) hi2 w hl ht)
      have HS := Lib.hid (fun w hl => slope_ok_any A c l hok w hl)
      have HC1 := Lib.hid (fun w => check_ok hv (by decide) w)
      have HC2 := Lib.hid (fun w => check_ok hv2 (by decide) w)
      have HO := Lib.hid (fun w => sorder_fit hv hv2 w (by decide) (by decide))
      have HO2 := Lib.hid (fun w => sorder_fit hz hz2 w (by decide) (by decide))
      by_cases hs0 : slC l = 0
      · have HI := Lib.hid (fun w hl => inv_no_any A c l hok (.inl hs0) w hl)
        rw [hs0] at HS
        clear hok hz hi hz2 hi2 hv hv2 hr hr2 hs0
        generalize ordR (valC l r) (valC l r2) = p at *
        generalize ordR r r2 = q at *
        have gm : IntKind.i64.wrap (0 * q) = 0 := by rw [Int.zero_mul]; exact IntWalk.i64_in _ (by decide)
        generalize sR (valC l r) = Y at *
        generalize sR (valC l r2) = Z at *
        generalize sR r = V at *
        generalize sR r2 = U at *
        by_cases hp : p = 0
        · subst hp
          go_enter Tryz.func5, Tryz.ntmps5
          go_wp2_with fail
          refine (HR.out _ (HL.out.below hB)).mono ?_
          rintro e wk ⟨rfl, hb⟩
          replace hB := hB.trans (hb.mono hB.size)
          clear hb
          go_wp2_with fail
          refine (HR2.out _ (HL.out.below hB)).mono ?_
          rintro e wk ⟨rfl, hb⟩
          replace hB := hB.trans (hb.mono hB.size)
          clear hb
          go_wp2_with fail
          refine (HA.out _ (HL.out.below hB) (HT.out.below hB)).mono ?_
          rintro e wk ⟨rfl, hb⟩
          replace hB := hB.trans (hb.mono hB.size)
          clear hb
          go_wp2_with fail
          refine (HA2.out _ (HL.out.below hB) (HT.out.below hB)).mono ?_
          rintro e wk ⟨rfl, hb⟩
          replace hB := hB.trans (hb.mono hB.size)
          clear hb
          go_wp2_with fail
          refine (HS.out _ (HL.out.below hB)).mono ?_
          rintro e wk ⟨rfl, hb⟩
          replace hB := hB.trans (hb.mono hB.size)
          clear hb
          go_wp2_with fail
          refine (HC1.out _).mono ?_
          rintro e wk ⟨rfl, hb⟩
          replace hB := hB.trans (hb.mono hB.size)
          clear hb
          go_wp2_with fail
          refine (HC2.out _).mono ?_
          rintro e wk ⟨rfl, hb⟩
          replace hB := hB.trans (hb.mono hB.size)
          clear hb
          go_wp2_with fail
          refine (HO.out _).mono ?_
          rintro e wk ⟨rfl, hb⟩
          replace hB := hB.trans (hb.mono hB.size)
          clear hb
          go_wp2_with fail
          refine (HO2.out _).mono ?_
          rintro e wk ⟨rfl, hb⟩
          replace hB := hB.trans (hb.mono hB.size)
          clear hb
          go_wp2_with fail
          refine (HI.out _ (HL.out.below hB)).mono ?_
          rintro e wk ⟨q1, rfl, hb⟩
          replace hB := hB.trans (hb.mono hB.size)
          clear hb
          go_wp2_with fail
          refine (HAw.out _ (HT.out.below hB)).mono ?_
          rintro e wk ⟨rfl, hb⟩
          replace hB := hB.trans (hb.mono hB.size)
          clear hb
          go_wp2_with fail
          go_ret
          exact ⟨rfl, hB⟩
        · have g1 : (p == 0) = false := by simpa using hp
          have g2 : (p != 0) = true := by simpa using hp
          clear hp
          go_enter Tryz.func5, Tryz.ntmps5
          go_wp2_with fail
          refine (HR.out _ (HL.out.below hB)).mono ?_
          rintro e wk ⟨rfl, hb⟩
          replace hB := hB.trans (hb.mono hB.size)
          clear hb
          go_wp2_with fail
          refine (HR2.out _ (HL.out.below hB)).mono ?_
          rintro e wk ⟨rfl, hb⟩
          replace hB := hB.trans (hb.mono hB.size)
          clear hb
          go_wp2_with fail
          refine (HA.out _ (HL.out.below hB) (HT.out.below hB)).mono ?_
          rintro e wk ⟨rfl, hb⟩
          replace hB := hB.trans (hb.mono hB.size)
          clear hb
          go_wp2_with fail
          refine (HA2.out _ (HL.out.below hB) (HT.out.below hB)).mono ?_
          rintro e wk ⟨rfl, hb⟩
          replace hB := hB.trans (hb.mono hB.size)
          clear hb
          go_wp2_with fail
          refine (HS.out _ (HL.out.below hB)).mono ?_
          rintro e wk ⟨rfl, hb⟩
          replace hB := hB.trans (hb.mono hB.size)
          clear hb
          go_wp2_with fail
          refine (HC1.out _).mono ?_
          rintro e wk ⟨rfl, hb⟩
          replace hB := hB.trans (hb.mono hB.size)
          clear hb
          go_wp2_with fail
          refine (HC2.out _).mono ?_
          rintro e wk ⟨rfl, hb⟩
          replace hB := hB.trans (hb.mono hB.size)
          clear hb
          go_wp2_with fail
          refine (HO.out _).mono ?_
          rintro e wk ⟨rfl, hb⟩
          replace hB := hB.trans (hb.mono hB.size)
          clear hb
          go_wp2_with fail
          refine (HO2.out _).mono ?_
          rintro e wk ⟨rfl, hb⟩
          replace hB := hB.trans (hb.mono hB.size)
          clear hb
          go_wp2_with fail
          refine (HI.out _ (HL.out.below hB)).mono ?_
          rintro e wk ⟨q1, rfl, hb⟩
          replace hB := hB.trans (hb.mono hB.size)
          clear hb
          go_wp2_with fail
          refine (HAw.out _ (HT.out.below hB)).mono ?_
          rintro e wk ⟨rfl, hb⟩
          replace hB := hB.trans (hb.mono hB.size)
          clear hb
          go_wp2_with fail
          go_ret
          exact ⟨rfl, hB⟩
      · have ho := slope_order hok hi.2 hi2.2 hs0
        rw [ho] at HO
        have gb : (-1 ≤ slC l ∧ slC l ≤ 1) ∧ -1 ≤ slC l * ordR r r2 ∧ slC l * ordR r r2 ≤ 1 := by
          have hq : -1 ≤ ordR r r2 ∧ ordR r r2 ≤ 1 := by unfold ordR; generalize r.num * (r2.den : Int) - r2.num * (r.den : Int) = x; rcases Int.sign_trichotomy x with h | h | h <;> rw [h] <;> decide
          rcases slC_cases l with ⟨e, _⟩ | ⟨e, _⟩ | e
          · rw [e]; omega
          · rw [e]; omega
          · exact absurd e hs0
        have gm : IntKind.i64.wrap (slC l * ordR r r2) = slC l * ordR r r2 := IntWalk.i64_in _ (by omega)
        by_cases hw : wholeC l
        · have HI := Lib.hid (fun w hl => inv_ok_any A c l hok hs0 hw w hl)
          obtain ⟨hto, hts, _, htt, htv⟩ := turn_all hok hs0 hw
          have HB := Lib.hid (fun A c w hl ht => at_ok A c (turnC l) hto hv (by decide) (hok.lev hi.1 hi.2) w hl ht)
          rw [htv r hi.1 hi.2] at HB
          have HS2 := Lib.hid (fun A c w hl => slope_ok_any A c (turnC l) hto w hl)
          rw [hts] at HS2
          have HI2 := Lib.hid (fun A c w hl => inv_ok_any A c (turnC l) hto (by rw [hts]; exact hs0) (by assumption) w hl)
          rw [htt] at HI2
          have HQ := Lib.hid (fun B1 B2 d1 d2 w h1 h2 => same_ok l B1 B2 d1 d2 w hn h1 h2)
          clear hok hz hi hz2 hi2 hv hv2 hr hr2 ho hto hts htt htv hw
          generalize turnC l = L1 at *
          generalize slC l = m at *
          generalize ordR r r2 = q at *
          generalize sR (valC l r) = Y at *
          generalize sR (valC l r2) = Z at *
          generalize sR r = V at *
          generalize sR r2 = U at *
          have g1 : (m == 0) = false := by simpa using hs0
          have g2 : (m != 0) = true := by simpa using hs0
          clear gb hs0
          go_enter Tryz.func5, Tryz.ntmps5
          go_wp2_with fail
          refine (HR.out _ (HL.out.below hB)).mono ?_
          rintro e wk ⟨rfl, hb⟩
          replace hB := hB.trans (hb.mono hB.size)
          clear hb
          go_wp2_with fail
          refine (HR2.out _ (HL.out.below hB)).mono ?_
          rintro e wk ⟨rfl, hb⟩
          replace hB := hB.trans (hb.mono hB.size)
          clear hb
          go_wp2_with fail
          refine (HA.out _ (HL.out.below hB) (HT.out.below hB)).mono ?_
          rintro e wk ⟨rfl, hb⟩
          replace hB := hB.trans (hb.mono hB.size)
          clear hb
          go_wp2_with fail
          refine (HA2.out _ (HL.out.below hB) (HT.out.below hB)).mono ?_
          rintro e wk ⟨rfl, hb⟩
          replace hB := hB.trans (hb.mono hB.size)
          clear hb
          go_wp2_with fail
          refine (HS.out _ (HL.out.below hB)).mono ?_
          rintro e wk ⟨rfl, hb⟩
          replace hB := hB.trans (hb.mono hB.size)
          clear hb
          go_wp2_with fail
          refine (HC1.out _).mono ?_
          rintro e wk ⟨rfl, hb⟩
          replace hB := hB.trans (hb.mono hB.size)
          clear hb
          go_wp2_with fail
          refine (HC2.out _).mono ?_
          rintro e wk ⟨rfl, hb⟩
          replace hB := hB.trans (hb.mono hB.size)
          clear hb
          go_wp2_with fail
          refine (HO.out _).mono ?_
          rintro e wk ⟨rfl, hb⟩
          replace hB := hB.trans (hb.mono hB.size)
          clear hb
          go_wp2_with fail
          refine (HO2.out _).mono ?_
          rintro e wk ⟨rfl, hb⟩
          replace hB := hB.trans (hb.mono hB.size)
          clear hb
          go_wp2_with fail
          refine (HI.out _ (HL.out.below hB)).mono ?_
          rintro e wk ⟨q1, rfl, A1, c1, rfl, ho, hb⟩
          replace hB := hB.trans (hb.mono hB.size)
          have hi1 : shP.In wk A1 L1.length L1 := Sh.In.of_own ho rfl
          clear ho
          clear hb
          go_wp2_with fail
          refine (HB.out _ _ _ hi1 (HT.out.below hB)).mono ?_
          rintro e wk ⟨rfl, hb⟩
          have hi1 := hi1.below hb
          replace hB := hB.trans (hb.mono hB.size)
          clear hb
          go_wp2_with fail
          refine (HS2.out _ _ _ hi1).mono ?_
          rintro e wk ⟨rfl, hb⟩
          have hi1 := hi1.below hb
          replace hB := hB.trans (hb.mono hB.size)
          clear hb
          go_wp2_with fail
          refine (HI2.out _ _ _ hi1).mono ?_
          rintro e wk ⟨q2, rfl, A2, c2, rfl, ho, hb⟩
          replace hB := hB.trans (hb.mono hB.size)
          have hi2 : shP.In wk A2 l.length l := Sh.In.of_own ho rfl
          clear ho
          clear hi1
          clear hb
          go_wp2_with fail
          refine (HQ.out _ _ _ _ _ hi2 (HL.out.below hB)).mono ?_
          rintro e wk ⟨rfl, hb⟩
          replace hB := hB.trans (hb.mono hB.size)
          clear hi2
          clear hb
          go_wp2_with fail
          refine (HAw.out _ (HT.out.below hB)).mono ?_
          rintro e wk ⟨rfl, hb⟩
          replace hB := hB.trans (hb.mono hB.size)
          clear hb
          go_wp2_with fail
          go_ret
          exact ⟨rfl, hB⟩
        · have HI := Lib.hid (fun w hl => inv_no_any A c l hok (.inr hw) w hl)
          clear hok hz hi hz2 hi2 hv hv2 hr hr2 ho hw
          generalize slC l = m at *
          generalize ordR r r2 = q at *
          generalize sR (valC l r) = Y at *
          generalize sR (valC l r2) = Z at *
          generalize sR r = V at *
          generalize sR r2 = U at *
          clear gb hs0
          go_enter Tryz.func5, Tryz.ntmps5
          go_wp2_with fail
          refine (HR.out _ (HL.out.below hB)).mono ?_
          rintro e wk ⟨rfl, hb⟩
          replace hB := hB.trans (hb.mono hB.size)
          clear hb
          go_wp2_with fail
          refine (HR2.out _ (HL.out.below hB)).mono ?_
          rintro e wk ⟨rfl, hb⟩
          replace hB := hB.trans (hb.mono hB.size)
          clear hb
          go_wp2_with fail
          refine (HA.out _ (HL.out.below hB) (HT.out.below hB)).mono ?_
          rintro e wk ⟨rfl, hb⟩
          replace hB := hB.trans (hb.mono hB.size)
          clear hb
          go_wp2_with fail
          refine (HA2.out _ (HL.out.below hB) (HT.out.below hB)).mono ?_
          rintro e wk ⟨rfl, hb⟩
          replace hB := hB.trans (hb.mono hB.size)
          clear hb
          go_wp2_with fail
          refine (HS.out _ (HL.out.below hB)).mono ?_
          rintro e wk ⟨rfl, hb⟩
          replace hB := hB.trans (hb.mono hB.size)
          clear hb
          go_wp2_with fail
          refine (HC1.out _).mono ?_
          rintro e wk ⟨rfl, hb⟩
          replace hB := hB.trans (hb.mono hB.size)
          clear hb
          go_wp2_with fail
          refine (HC2.out _).mono ?_
          rintro e wk ⟨rfl, hb⟩
          replace hB := hB.trans (hb.mono hB.size)
          clear hb
          go_wp2_with fail
          refine (HO.out _).mono ?_
          rintro e wk ⟨rfl, hb⟩
          replace hB := hB.trans (hb.mono hB.size)
          clear hb
          go_wp2_with fail
          refine (HO2.out _).mono ?_
          rintro e wk ⟨rfl, hb⟩
          replace hB := hB.trans (hb.mono hB.size)
          clear hb
          go_wp2_with fail
          refine (HI.out _ (HL.out.below hB)).mono ?_
          rintro e wk ⟨q1, rfl, hb⟩
          replace hB := hB.trans (hb.mono hB.size)
          clear hb
          go_wp2_with fail
          refine (HAw.out _ (HT.out.below hB)).mono ?_
          rintro e wk ⟨rfl, hb⟩
          replace hB := hB.trans (hb.mono hB.size)
          clear hb
          go_wp2_with fail
          go_ret
          exact ⟨rfl, hB⟩
    · rw [Bool.not_eq_true] at hr2
      rw [hr2] at HR2
      go_enter Tryz.func5, Tryz.ntmps5
      go_wp2_with fail
      refine (HR.out _ (HL.out.below hB)).mono ?_
      rintro e wk ⟨rfl, hb⟩
      replace hB := hB.trans (hb.mono hB.size)
      clear hb
      go_wp2_with fail
      refine (HR2.out _ (HL.out.below hB)).mono ?_
      rintro e wk ⟨rfl, hb⟩
      replace hB := hB.trans (hb.mono hB.size)
      clear hb
      go_wp2_with fail
      refine (HAw.out _ (HT.out.below hB)).mono ?_
      rintro e wk ⟨rfl, hb⟩
      replace hB := hB.trans (hb.mono hB.size)
      clear hb
      go_wp2_with fail
      go_ret
      exact ⟨rfl, hB⟩
  · rw [Bool.not_eq_true] at hr
    rw [hr] at HR
    go_enter Tryz.func5, Tryz.ntmps5
    go_wp2_with fail
    refine (HR.out _ (HL.out.below hB)).mono ?_
    rintro e wk ⟨rfl, hb⟩
    replace hB := hB.trans (hb.mono hB.size)
    clear hb
    go_wp2_with fail
    refine (HAw.out _ (HT.out.below hB)).mono ?_
    rintro e wk ⟨rfl, hb⟩
    replace hB := hB.trans (hb.mono hB.size)
    clear hb
    go_wp2_with fail
    go_ret
    exact ⟨rfl, hB⟩
theorem curve_returns (w : World) (A : Option Addr) (n c : Nat) (l : List PT) (hl : shP.In w A n l) (_ : ∀ g ∈ l, goodP g) (_ : n ≤ maxLen) (s : ByteArray) (hs : s.size ≤ maxLen) (s2 : ByteArray) (hs2 : s2.size ≤ maxLen) (hL : Laid w) :
    Calls Tryz.prog 5 #[.slice A n c, .string s, .string s2] w fun e w' => e = .returned (.bool true) ∧ Below w.heap.size w w' :=
  creturns_walk w A n c l s s2 hl (by unfold maxLen at hs; omega) (by unfold maxLen at hs2; omega) hL.1
end Go.Proofs.YtfehefafgghopaaGreatDoor
