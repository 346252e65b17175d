/- Lemmas and contracts of functions, joined for the claim: Law9a. -/
import Derived.Test.YtfehefafgghopaaGreatDoorGCurveC
import Derived.Test.YtfehefafgghopaaGreatDoorGOpen
namespace Go.Proofs.YtfehefafgghopaaGreatDoor
open Go.RowKit

theorem turnC_len (l : List PT) : (turnC l).length = l.length := by unfold turnC; split <;> simp
theorem invT_len (l : List PT) : (invT l).length ≤ l.length := by unfold invT; split <;> simp [turnC_len]
theorem flipT_len (l : List PT) : (flipT l).length ≤ l.length := by unfold flipT flipC; split <;> simp
theorem tidyC_len (l : List PT) : (tidyC l).length ≤ l.length := by
  match l with
  | [] => exact Nat.le_refl _
  | a :: t => exact Nat.succ_le_succ (tidy_len t a)
theorem tidyT_len (l : List PT) : (tidyT l).length ≤ l.length := by unfold tidyT; split; exact Nat.zero_le _; exact tidyC_len l
set_option maxRecDepth 100000 in
set_option maxHeartbeats 8000000 in
theorem cchanges_walk (w : World) (A : Option Addr) (n c : Nat) (l : List PT) (hl : shP.In w A n l) (ht : Tab w) :
    Calls Tryz.prog 7 #[.slice A n c] w fun e w' => e = .returned (.bool true) ∧ Below w.heap.size w w' := by
  obtain ⟨rfl, _⟩ := id hl
  have HAw := Lib.hid (fun w ht => cawake_any w ht)
  have HF := Lib.hid (fun w => r9few_any A l.length c w)
  have hB := Below.refl w.heap.size w
  have HT := Lib.hid ht
  by_cases hfew : l.length ≤ 40
  · rw [decide_eq_true hfew] at HF
    have hn : l.length ≤ 9223372036854775806 := by omega
    have HS := Lib.hid (fun w hl => cSlope_any A l.length c l w hl hn)
    have HS2 := Lib.hid (fun w hl => r9slope_any A l.length c l w hl hn)
    have HI := Lib.hid (fun w hl => cinverse_any A l.length c l w hl hn)
    have HI2 := Lib.hid (fun w hl => r9inverse_any A l.length c l w hl hn)
    have HP := Lib.hid (fun w hl => cflip_any A l.length c l w hl hn)
    have HP2 := Lib.hid (fun w hl => r9flip_any A l.length c l w hl hn)
    have HD := Lib.hid (fun w hl ht => ctidy_any A l.length c l w hl hn ht)
    have HD2 := Lib.hid (fun w hl => r9tidy_any A l.length c l w hl hn)
    have i1 : (invT l).length ≤ 40 := Nat.le_trans (invT_len l) hfew
    have i2 : (flipT l).length ≤ 40 := Nat.le_trans (flipT_len l) hfew
    have i3 : (tidyT l).length ≤ 40 := Nat.le_trans (tidyT_len l) hfew
    have HQ : RowKit.Hid (∀ (k : List PT) (B1 B2 : Option Addr) (d1 d2 : Nat) (w : World), k.length ≤ 40 → shP.In w B1 k.length k → shP.In w B2 k.length k → Calls Tryz.prog 21 #[.slice B1 k.length d1, .slice B2 k.length d2] w fun e w' => e = .returned (.bool true) ∧ Below w.heap.size w w') := Lib.hid (fun k B1 B2 d1 d2 w h h1 h2 => by
      have := r9same_any B1 B2 k.length k.length d1 d2 k k w h1 h2 (by omega) (by omega)
      rw [decide_eq_true rfl] at this
      exact this)
    generalize slopeT l = s0 at *
    generalize chkC l = q0 at *
    generalize errI l = e0 at *
    generalize invT l = L1 at *
    generalize flipT l = L2 at *
    generalize tidyT l = L3 at *
    have HL := Lib.hid hl
    clear hl
    go_enter Tryz.func7, Tryz.ntmps7
    go_wp2_with fail
    refine (HF.out _).mono ?_
    rintro e wk ⟨rfl, hb⟩
    replace hB := hB.trans (hb.mono hB.size)
    clear hb
    go_wp2_with fail
    refine (HS.out _ (HL.out.below hB)).mono ?_
    rintro e wk ⟨rfl, hb⟩
    replace hB := hB.trans (hb.mono hB.size)
    clear hb
    go_wp2_with fail
    refine (HS2.out _ (HL.out.below hB)).mono ?_
    rintro e wk ⟨rfl, hb⟩
    replace hB := hB.trans (hb.mono hB.size)
    clear hb
    go_wp2_with fail
    refine (HI.out _ (HL.out.below hB)).mono ?_
    rintro e wk ⟨r1, rfl, A1, c1, rfl, ho, hb⟩
    replace hB := hB.trans (hb.mono hB.size)
    have hi1 : shP.In wk A1 L1.length L1 := Sh.In.of_own ho rfl
    clear ho hb
    go_wp2_with fail
    refine (HI2.out _ (HL.out.below hB)).mono ?_
    rintro e wk ⟨r2, rfl, A2, c2, rfl, ho, hb⟩
    have hi1 := hi1.below hb
    replace hB := hB.trans (hb.mono hB.size)
    have hi2 : shP.In wk A2 L1.length L1 := Sh.In.of_own ho rfl
    clear ho hb
    go_wp2_with fail
    refine (HP.out _ (HL.out.below hB)).mono ?_
    rintro e wk ⟨r3, rfl, A3, c3, rfl, ho, hb⟩
    have hi1 := hi1.below hb
    have hi2 := hi2.below hb
    replace hB := hB.trans (hb.mono hB.size)
    have hi3 : shP.In wk A3 L2.length L2 := Sh.In.of_own ho rfl
    clear ho hb
    go_wp2_with fail
    refine (HP2.out _ (HL.out.below hB)).mono ?_
    rintro e wk ⟨r4, rfl, A4, c4, rfl, ho, hb⟩
    have hi1 := hi1.below hb
    have hi2 := hi2.below hb
    have hi3 := hi3.below hb
    replace hB := hB.trans (hb.mono hB.size)
    have hi4 : shP.In wk A4 L2.length L2 := Sh.In.of_own ho rfl
    clear ho hb
    go_wp2_with fail
    refine (HD.out _ (HL.out.below hB) (HT.out.below hB)).mono ?_
    rintro e wk ⟨r5, rfl, A5, c5, rfl, ho, hb⟩
    have hi1 := hi1.below hb
    have hi2 := hi2.below hb
    have hi3 := hi3.below hb
    have hi4 := hi4.below hb
    replace hB := hB.trans (hb.mono hB.size)
    have hi5 : shP.In wk A5 L3.length L3 := Sh.In.of_own ho rfl
    clear ho hb
    go_wp2_with fail
    refine (HD2.out _ (HL.out.below hB)).mono ?_
    rintro e wk ⟨r6, rfl, A6, c6, rfl, ho, hb⟩
    have hi1 := hi1.below hb
    have hi2 := hi2.below hb
    have hi3 := hi3.below hb
    have hi4 := hi4.below hb
    have hi5 := hi5.below hb
    replace hB := hB.trans (hb.mono hB.size)
    have hi6 : shP.In wk A6 L3.length L3 := Sh.In.of_own ho rfl
    clear ho hb
    go_wp2_with fail
    refine (HQ.out _ _ _ _ _ _ i1 hi1 hi2).mono ?_
    rintro e wk ⟨rfl, hb⟩
    have hi3 := hi3.below hb
    have hi4 := hi4.below hb
    have hi5 := hi5.below hb
    have hi6 := hi6.below hb
    replace hB := hB.trans (hb.mono hB.size)
    clear hb hi1 hi2
    go_wp2_with fail
    refine (HQ.out _ _ _ _ _ _ i2 hi3 hi4).mono ?_
    rintro e wk ⟨rfl, hb⟩
    have hi5 := hi5.below hb
    have hi6 := hi6.below hb
    replace hB := hB.trans (hb.mono hB.size)
    clear hb hi3 hi4
    go_wp2_with fail
    refine (HQ.out _ _ _ _ _ _ i3 hi5 hi6).mono ?_
    rintro e wk ⟨rfl, hb⟩
    replace hB := hB.trans (hb.mono hB.size)
    clear hb hi5 hi6
    go_wp2_with fail
    refine (HAw.out _ (HT.out.below hB)).mono ?_
    rintro e wk ⟨rfl, hb⟩
    replace hB := hB.trans (hb.mono hB.size)
    go_wp2_with fail
    go_ret
    exact ⟨rfl, hB⟩
  · rw [decide_eq_false hfew] at HF
    clear hl
    go_enter Tryz.func7, Tryz.ntmps7
    go_wp2_with fail
    refine (HF.out _).mono ?_
    rintro e wk ⟨rfl, hb⟩
    replace hB := hB.trans (hb.mono hB.size)
    clear hb
    go_wp2_with fail
    refine (HAw.out _ (HT.out.below hB)).mono ?_
    rintro e wk ⟨rfl, hb⟩
    replace hB := hB.trans (hb.mono hB.size)
    go_wp2_with fail
    go_ret
    exact ⟨rfl, hB⟩
theorem curve_changes (w : World) (A : Option Addr) (n c : Nat) (l : List PT) (hl : shP.In w A n l) (_ : ∀ g ∈ l, goodP g) (_ : n ≤ maxLen) (hL : Laid w) :
    Calls Tryz.prog 7 #[.slice A n c] w fun e w' => e = .returned (.bool true) ∧ Below w.heap.size w w' :=
  cchanges_walk w A n c l hl hL.1

set_option maxRecDepth 100000 in
set_option maxHeartbeats 8000000 in
theorem cchecks_walk (w : World) (A : Option Addr) (n c : Nat) (l : List PT) (s : ByteArray) (hl : shP.In w A n l) (hs : s.size ≤ 9223372036854775807) (ht : Tab w) :
    Calls Tryz.prog 4 #[.slice A n c, .string s] w fun e w' => e = .returned (.bool true) ∧ Below w.heap.size w w' := by
  obtain ⟨rfl, _⟩ := id hl
  have HAw := Lib.hid (fun w ht => cawake_any w ht)
  have HF := Lib.hid (fun w => r9few_any A l.length c w)
  have HF2 := Lib.hid (fun w => sfew_any s w hs)
  have hB := Below.refl w.heap.size w
  have HT := Lib.hid ht
  by_cases hfew : l.length ≤ 40
  · rw [decide_eq_true hfew] at HF
    by_cases hfs : s.size ≤ 120
    · rw [decide_eq_true hfs] at HF2
      have hn : l.length ≤ 9223372036854775806 := by omega
      have HA := Lib.hid (fun w hl ht => cat_any A l.length c l s w hl (by omega) (by omega) ht)
      have HA2 := Lib.hid (fun w hl => r9at_any A l.length c l s w hl (by omega) (by omega))
      have HC := Lib.hid (fun w hl => ccheck_any A l.length c l w hl (by omega))
      have HC2 := Lib.hid (fun w hl => r9check_any A l.length c l w hl (by omega))
      have HS := Lib.hid (fun w => cstraight_any w)
      have HS2 := Lib.hid (fun w => r9straight_any w)
      have HQ : RowKit.Hid (∀ (B1 B2 : Option Addr) (d1 d2 : Nat) (w : World), shP.In w B1 2 straightC → shP.In w B2 2 straightC → Calls Tryz.prog 21 #[.slice B1 2 d1, .slice B2 2 d2] w fun e w' => e = .returned (.bool true) ∧ Below w.heap.size w w') := Lib.hid (fun B1 B2 d1 d2 w h1 h2 => by
        have := r9same_any B1 B2 2 2 d1 d2 straightC straightC w h1 h2 (by decide) (by decide)
        rw [decide_eq_true rfl] at this
        exact this)
      generalize atC l s = a0 at *
      generalize chkC l = q0 at *
      generalize errC l s = e0 at *
      have HL := Lib.hid hl
      clear hl
      go_enter Tryz.func4, Tryz.ntmps4
      go_wp2_with fail
      refine (HF.out _).mono ?_
      rintro e wk ⟨rfl, hb⟩
      replace hB := hB.trans (hb.mono hB.size)
      clear hb
      go_wp2_with fail
      refine (HF2.out _).mono ?_
      rintro e wk ⟨rfl, hb⟩
      replace hB := hB.trans (hb.mono hB.size)
      clear hb
      go_wp2_with fail
      refine (HA.out _ (HL.out.below hB) (HT.out.below hB)).mono ?_
      rintro e wk ⟨rfl, hb⟩
      replace hB := hB.trans (hb.mono hB.size)
      clear hb
      go_wp2_with fail
      refine (HA2.out _ (HL.out.below hB)).mono ?_
      rintro e wk ⟨rfl, hb⟩
      replace hB := hB.trans (hb.mono hB.size)
      clear hb
      go_wp2_with fail
      refine (HC.out _ (HL.out.below hB)).mono ?_
      rintro e wk ⟨rfl, hb⟩
      replace hB := hB.trans (hb.mono hB.size)
      clear hb
      go_wp2_with fail
      refine (HC2.out _ (HL.out.below hB)).mono ?_
      rintro e wk ⟨rfl, hb⟩
      replace hB := hB.trans (hb.mono hB.size)
      clear hb
      go_wp2_with fail
      refine (HS.out _).mono ?_
      rintro e wk ⟨r1, rfl, A1, c1, rfl, ho, hb⟩
      replace hB := hB.trans (hb.mono hB.size)
      have hi1 : shP.In wk A1 2 straightC := Sh.In.of_own ho rfl
      clear ho hb
      go_wp2_with fail
      refine (HS2.out _).mono ?_
      rintro e wk ⟨r2, rfl, A2, c2, rfl, ho, hb⟩
      have hi1 := hi1.below hb
      replace hB := hB.trans (hb.mono hB.size)
      have hi2 : shP.In wk A2 2 straightC := Sh.In.of_own ho rfl
      clear ho hb
      go_wp2_with fail
      refine (HQ.out _ _ _ _ _ hi1 hi2).mono ?_
      rintro e wk ⟨rfl, hb⟩
      replace hB := hB.trans (hb.mono hB.size)
      clear hb hi1 hi2
      go_wp2_with fail
      refine (HAw.out _ (HT.out.below hB)).mono ?_
      rintro e wk ⟨rfl, hb⟩
      replace hB := hB.trans (hb.mono hB.size)
      go_wp2_with fail
      go_ret
      exact ⟨rfl, hB⟩
    · rw [decide_eq_false hfs] at HF2
      clear hl
      go_enter Tryz.func4, Tryz.ntmps4
      go_wp2_with fail
      refine (HF.out _).mono ?_
      rintro e wk ⟨rfl, hb⟩
      replace hB := hB.trans (hb.mono hB.size)
      clear hb
      go_wp2_with fail
      refine (HF2.out _).mono ?_
      rintro e wk ⟨rfl, hb⟩
      replace hB := hB.trans (hb.mono hB.size)
      clear hb
      go_wp2_with fail
      refine (HAw.out _ (HT.out.below hB)).mono ?_
      rintro e wk ⟨rfl, hb⟩
      replace hB := hB.trans (hb.mono hB.size)
      go_wp2_with fail
      go_ret
      exact ⟨rfl, hB⟩
  · rw [decide_eq_false hfew] at HF
    clear hl
    go_enter Tryz.func4, Tryz.ntmps4
    go_wp2_with fail
    refine (HF.out _).mono ?_
    rintro e wk ⟨rfl, hb⟩
    replace hB := hB.trans (hb.mono hB.size)
    clear hb
    go_wp2_with fail
    refine (HAw.out _ (HT.out.below hB)).mono ?_
    rintro e wk ⟨rfl, hb⟩
    replace hB := hB.trans (hb.mono hB.size)
    go_wp2_with fail
    go_ret
    exact ⟨rfl, hB⟩
theorem curve_checks (w : World) (A : Option Addr) (n c : Nat) (l : List PT) (hl : shP.In w A n l) (_ : ∀ g ∈ l, goodP g) (_ : n ≤ maxLen) (s : ByteArray) (hs : s.size ≤ maxLen) (hL : Laid w) :
    Calls Tryz.prog 4 #[.slice A n c, .string s] w fun e w' => e = .returned (.bool true) ∧ Below w.heap.size w w' :=
  cchecks_walk w A n c l s hl (by unfold maxLen at hs; omega) hL.1
end Go.Proofs.YtfehefafgghopaaGreatDoor
