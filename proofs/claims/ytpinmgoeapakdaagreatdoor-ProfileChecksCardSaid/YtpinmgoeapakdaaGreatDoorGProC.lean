/- Lemmas and contracts of functions, joined for the claim: PrRaw, PrRaw2, PrSlot, PrMid. -/
import Derived.Test.YtpinmgoeapakdaaGreatDoorGProB
import Derived.Test.YtpinmgoeapakdaaGreatDoorGQuo
import Derived.Test.YtpinmgoeapakdaaGreatDoorGLevA
import Derived.Test.YtpinmgoeapakdaaGreatDoorGCurveA
import Derived.Test.YtpinmgoeapakdaaGreatDoorGCurveB
import Derived.Test.YtpinmgoeapakdaaGreatDoorGRat
import Derived.Laws.ResultCell
namespace Go.Proofs.YtpinmgoeapakdaaGreatDoor
open Go.RowKit

theorem pre_neg : ∀ l : BT, Lib.hasPrefix l [45] = negT l
  | [] => rfl
  | c :: t => by
    by_cases h : c = 45
    · subst h; rfl
    · rw [negT_other h]
      show ((45 == c) && _) = false
      rw [show ((45 : UInt8) == c) = false by rw [beq_eq_false_iff_ne]; exact fun e => h e.symm]; rfl
theorem negT_app (l t : BT) : negT (l ++ 47 :: t) = negT l := by
  match l with
  | [] => exact negT_other (by decide)
  | c :: l =>
    by_cases h : c = 45
    · subst h; rfl
    · rw [List.cons_append, negT_other h, negT_other h]
theorem pre_rat (r : Rat) : Lib.hasPrefix (sR r).data.toList [45] = decide (r < 0) := by
  rw [pre_neg, sR_list]
  have h : negT (rT r) = negT (Lib.itoa r.num) := by
    unfold rT
    by_cases hd : r.den = 1
    · rw [if_pos hd]
    · rw [if_neg hd, negT_app]
  rw [h, negT_itoa, decide_eq_decide]
  have := Rat.num_nonneg (q := r)
  constructor
  · intro h1; exact Rat.not_le.1 fun h2 => absurd (this.2 h2) (by omega)
  · intro h1; exact Int.not_le.1 fun h2 => absurd (this.1 h2) (Rat.not_le.2 h1)
theorem clamp_low {r : Rat} (h : r < 0) : clampR r = ((0 : Int) : Rat) := by unfold clampR; rw [if_pos h]; rfl
theorem clamp_high {r : Rat} (h : ¬ r < 0) (h2 : 65535 ≤ r.floor) : clampR r = ((65535 : Int) : Rat) := by
  unfold clampR
  rw [if_neg h]
  by_cases h3 : 65535 < r
  · rw [if_pos h3]; rfl
  · rw [if_neg h3]
    have h4 : ((65535 : Int) : Rat) ≤ r := Rat.le_trans (cast_le.2 h2) (floor_bd r).1
    exact Rat.le_antisymm (Rat.not_lt.1 h3) h4
theorem clamp_mid {r : Rat} (h : ¬ r < 0) (h2 : ¬ 65535 ≤ r.floor) : clampR r = r := by
  refine clamp_id ⟨Rat.not_lt.1 h, ?_⟩
  have h3 := (floor_bd r).2
  have h4 : ((r.floor + 1 : Int) : Rat) ≤ ((65535 : Int) : Rat) := cast_le.2 (by omega)
  rw [Rat.intCast_add] at h4
  exact Rat.le_trans (Rat.le_of_lt h3) h4
theorem clamp_sz {k : Nat} {r : Rat} (h : SzR k r) (hk : 5 ≤ k) : SzR k (clampR r) := by
  unfold clampR
  split
  · exact (SzR.int (k := 5) (z := 0) (by decide) (by decide)).up hk
  · split
    · exact (SzR.int (k := 5) (z := 65535) (by decide) (by decide)).up hk
    · exact h
theorem zero_txt : (⟨#[48]⟩ : ByteArray) = sR ((0 : Int) : Rat) := by rw [sR_int]; exact bs_eq (by rw [sI_list, zero_list])
set_option maxHeartbeats 2000000 in
theorem pwithin_fit {k : Nat} {r : Rat} (hz : SzR k r) (hk : k ≤ 4000) (w : World) (ht : Tab w) (hr : Rng w) :
    Calls Tryz.prog 47 #[.string (sR r)] w fun e w' => e = .returned (.string (sR (clampR r))) ∧ Below w.heap.size w w' := by
  have hB := Below.refl w.heap.size w
  have HT := Lib.hid ht
  have HRg := Lib.hid hr
  have HP := Lib.hid (show ∀ w, Calls Tryz.prog 104 #[.string (sR r), .string ⟨#[45]⟩] w fun e w' => e = .returned (.bool (decide (r < 0))) ∧ w' = w from fun w => (Tryz.strings_HasPrefix (sR r) ⟨#[45]⟩ w).mono (by rintro e w' ⟨rfl, rfl⟩; exact ⟨by rw [show (⟨#[45]⟩ : ByteArray).data.toList = [45] from rfl, pre_rat], rfl⟩))
  have HFl := Lib.hid (fun w ht => qfloor_fit (hz.fit (by omega)) w ht)
  have hff : Fit r.floor := by
    have h1 := floor_lt hz
    unfold Fit
    have h2 : r.floor.natAbs < 10 ^ (k + 2) := by
      have : (10 : Nat) ^ (k + 2) = 10 * 10 ^ (k + 1) := by rw [Nat.pow_succ, Nat.mul_comm]
      have h0 : 0 < (10 : Nat) ^ (k + 1) := Nat.pow_pos (by decide)
      omega
    exact fit_lt h2 (by omega)
  have HSm := Lib.hid (fun w hr => small_s hff w hr)
  rw [smallT_sI hff] at HSm
  have HW := Lib.hid (fun w ht => qwhole_fit (x := 65535) (by decide) (by decide) w ht)
  by_cases h0 : r < 0
  · rw [decide_eq_true h0] at HP
    rw [clamp_low h0, ← zero_txt]
    clear ht hr
    generalize sR r = V at *
    go_enter Tryz.func47, Tryz.ntmps47
    go_wp2_with (go_at_call 104; refine (HP.out _).mono ?_; rintro e wk ⟨rfl, rfl⟩)
    go_ret
    exact ⟨rfl, hB⟩
  · rw [decide_eq_false h0] at HP
    by_cases h1 : 65535 ≤ r.floor
    · rw [clamp_high h0 h1]
      clear ht hr
      by_cases hin : -9223372036854775808 ≤ r.floor ∧ r.floor ≤ 9223372036854775807
      · rw [if_pos hin] at HSm
        generalize sR r = V at *
        generalize r.floor = fl at *
        generalize sI fl = FL at *
        generalize sR ((65535 : Int) : Rat) = MX at *
        clear hff hin hz
        go_enter Tryz.func47, Tryz.ntmps47
        go_wp2_with (first | (go_at_call 104; refine (HP.out _).mono ?_; rintro e wk ⟨rfl, rfl⟩) | (go_at_call 105; with_reducible refine (HFl.out _ (HT.out.below hB)).mono ?_; rintro e wk ⟨rfl, hb⟩; replace hB := hB.trans (hb.mono hB.size); clear hb) | (go_at_call 51; with_reducible refine (HSm.out _ (HRg.out.below hB)).mono ?_; rintro e wk ⟨rfl, hb⟩; replace hB := hB.trans (hb.mono hB.size); clear hb) | (go_at_call 106; with_reducible refine (HW.out _ (HT.out.below hB)).mono ?_; rintro e wk ⟨rfl, hb⟩; replace hB := hB.trans (hb.mono hB.size); clear hb))
        go_ret
        exact ⟨rfl, hB⟩
      · rw [if_neg hin] at HSm
        generalize sR r = V at *
        generalize r.floor = fl at *
        generalize sI fl = FL at *
        generalize sR ((65535 : Int) : Rat) = MX at *
        clear hff hin hz h1
        go_enter Tryz.func47, Tryz.ntmps47
        go_wp2_with (first | (go_at_call 104; refine (HP.out _).mono ?_; rintro e wk ⟨rfl, rfl⟩) | (go_at_call 105; with_reducible refine (HFl.out _ (HT.out.below hB)).mono ?_; rintro e wk ⟨rfl, hb⟩; replace hB := hB.trans (hb.mono hB.size); clear hb) | (go_at_call 51; with_reducible refine (HSm.out _ (HRg.out.below hB)).mono ?_; rintro e wk ⟨rfl, hb⟩; replace hB := hB.trans (hb.mono hB.size); clear hb) | (go_at_call 106; with_reducible refine (HW.out _ (HT.out.below hB)).mono ?_; rintro e wk ⟨rfl, hb⟩; replace hB := hB.trans (hb.mono hB.size); clear hb))
        go_ret
        exact ⟨rfl, hB⟩
    · rw [clamp_mid h0 h1]
      clear ht hr
      have h2 : 0 ≤ r.floor := floor_low (z := 0) (Rat.not_lt.1 h0)
      rw [if_pos (by omega)] at HSm
      generalize sR r = V at *
      generalize r.floor = fl at *
      generalize sI fl = FL at *
      clear hff hz h2
      go_enter Tryz.func47, Tryz.ntmps47
      go_wp2_with (first | (go_at_call 104; refine (HP.out _).mono ?_; rintro e wk ⟨rfl, rfl⟩) | (go_at_call 105; with_reducible refine (HFl.out _ (HT.out.below hB)).mono ?_; rintro e wk ⟨rfl, hb⟩; replace hB := hB.trans (hb.mono hB.size); clear hb) | (go_at_call 51; with_reducible refine (HSm.out _ (HRg.out.below hB)).mono ?_; rintro e wk ⟨rfl, hb⟩; replace hB := hB.trans (hb.mono hB.size); clear hb) | (go_at_call 106; with_reducible refine (HW.out _ (HT.out.below hB)).mono ?_; rintro e wk ⟨rfl, hb⟩; replace hB := hB.trans (hb.mono hB.size); clear hb))
      go_ret
      exact ⟨rfl, hB⟩
set_option maxHeartbeats 2000000 in
theorem ppoints_any (f : FC) (A' : Option Addr) (n' c' : Nat) (H : List Hd) (L : List (List PT)) (w : World) (hl : InN w A' n' H L) (h0 : 0 ≤ f.cu) (h1 : f.cu ≤ n') (hn : n' ≤ 9223372036854775807) :
    Calls Tryz.prog 46 #[f.val, .slice A' n' c'] w fun e w' => ∃ A2 n2 c2, e = .returned (.slice A2 n2 c2) ∧ shP.In w' A2 n2 (pointsC f.cu L) ∧ Below w.heap.size w w' := by
  obtain ⟨at_, bits, co, fi, cu, ho, lo, hi, sn, A, n, c⟩ := f
  replace h0 : 0 ≤ cu := h0
  replace h1 : cu ≤ n' := h1
  show Calls Tryz.prog 46 #[.agg #[.int .i64 at_, .int .i64 bits, .int .i64 co, .int .i64 fi, .int .i64 cu, .int .i64 ho, .int .i64 lo, .int .i64 hi, .bool sn, .slice A n c], .slice A' n' c'] w fun e w' => ∃ A2 n2 c2, e = .returned (.slice A2 n2 c2) ∧ shP.In w' A2 n2 (pointsC cu L) ∧ Below w.heap.size w w'
  obtain ⟨W, hW⟩ : ∃ W, W = w.alloc (.cells #[.int .i64 at_, .int .i64 bits, .int .i64 co, .int .i64 fi, .int .i64 cu, .int .i64 ho, .int .i64 lo, .int .i64 hi, .bool sn, .slice A n c] 24) := ⟨_, rfl⟩
  obtain ⟨hB0, hK⟩ := fbox at_ bits co fi cu ho lo hi sn A n c w W hW
  have HK := Lib.hid hK
  have HW := Lib.hid hW
  have HB0 := Lib.hid hB0
  have hB := Below.refl W.heap.size W
  obtain ⟨c0, c1, c2, c3, c4, c5, c6, c7, c8, c9⟩ := hK W hB
  clear hW hB0 hK
  have HSt := Lib.hid (fun w => cstraight_any w)
  by_cases hc : cu = 0
  · subst hc
    have hp : pointsC 0 L = straightC := by unfold pointsC; rw [if_pos rfl]
    rw [hp]
    clear hl h0 h1
    go_enter Tryz.func46, Tryz.ntmps46
    go_wp2_with fail
    rw [← HW.out]
    refine (HSt.out _).mono ?_
    rintro e wk ⟨r, rfl, A2, c2, rfl, ho, hb⟩
    replace hB := hB.trans (hb.mono hB.size)
    clear hb
    go_wp2_with fail
    go_ret
    exact ⟨_, _, _, rfl, Sh.In.of_own ho rfl, HB0.out.trans (hB.mono HB0.out.size)⟩
  · obtain ⟨j, rfl⟩ : ∃ j : Nat, cu = ((j : Nat) : Int) + 1 := ⟨(cu - 1).toNat, by omega⟩
    have hj : j < n' := by omega
    obtain ⟨rfl, _⟩ := id hl.1
    obtain ⟨b, o, rfl, hbl, hcell⟩ := hd_at hl.1 (by omega)
    have hjL : j < L.length := by rw [← hl.2.1]; exact hj
    have hp : pointsC ((j : Int) + 1) L = L[j] := by
      unfold pointsC
      rw [if_neg hc, show ((j : Int) + 1 - 1).toNat = j by omega, getD_of hjL]
    rw [hp]
    have hq := (hl.2.2 j hj hjL).below HB0.out
    have p0 := (HB0.out.cell (p := ⟨b, o + j, none⟩) hbl).trans (hcell j hj)
    have hbw : b < W.heap.size := Nat.lt_of_lt_of_le hbl HB0.out.size
    have pw := hcell j hj
    have HQ := Lib.hid hq
    clear hl hcell hq
    generalize H[j].A = a2 at *
    generalize H[j].n = n2 at *
    generalize H[j].c = d2 at *
    have g0 : ((j : Int) + 1 == 0) = false := by rw [beq_eq_false_iff_ne]; omega
    have w1 : IntKind.i64.wrap ((j : Int) + 1 - 1) = (j : Int) := by rw [Int.add_sub_cancel]; exact IntWalk.i64_in _ (by omega)
    have i0 : (0 : Int) ≤ (j : Int) := by omega
    have i1 : (j : Int) < (H.length : Int) := by omega
    clear h0 h1 hc hp
    go_enter Tryz.func46, Tryz.ntmps46
    go_wp2_with fail
    rw [← HW.out]
    try go_wp2_with fail
    go_ret
    exact ⟨_, _, _, rfl, HQ.out, HB0.out.trans (hB.mono HB0.out.size)⟩
end Go.Proofs.YtpinmgoeapakdaaGreatDoor

namespace Go.Proofs.YtpinmgoeapakdaaGreatDoor
open Go.RowKit

theorem alone_ok {f : Fea} {L : List (List PT)} (h : aloneE f L = 0) : errA L = 0 ∧ (f.bits = 8 ∨ f.bits = 16) ∧ 0 ≤ f.cu ∧ f.cu ≤ L.length ∧ isLev f.ho ∧ 0 ≤ f.lo ∧ f.lo ≤ f.hi ∧ f.hi ≤ topV f.bits ∧ wheelE f.wh = 0 := by
  unfold aloneE at h
  by_cases hA : errA L = 0
  · rw [if_neg (fun hn => hn hA)] at h
    by_cases hb : bitsE f = 0
    · rw [if_neg (fun hn => hn hb)] at h
      unfold innerE at h
      by_cases hc : f.cu < 0 ∨ (L.length : Int) < f.cu
      · rw [if_pos hc] at h; exact absurd h (by decide)
      · rw [if_neg hc] at h
        unfold partsE at h
        by_cases hp : ¬ isLev f.ho ∨ f.lo < 0 ∨ f.hi < f.lo ∨ topV f.bits < f.hi
        · rw [if_pos hp] at h; exact absurd h (by decide)
        · rw [if_neg hp] at h
          refine ⟨hA, bits_of hb, by omega, by omega, Classical.not_not.1 fun hn => hp (.inl hn), ?_, ?_, ?_, h⟩
          · exact Int.not_lt.1 fun hn => hp (.inr (.inl hn))
          · exact Int.not_lt.1 fun hn => hp (.inr (.inr (.inl hn)))
          · exact Int.not_lt.1 fun hn => hp (.inr (.inr (.inr hn)))
    · rw [if_pos hb] at h; exact absurd h hb
  · rw [if_pos hA] at h; exact absurd h hA
theorem topV_le (b : Int) : topV b ≤ 65535 := by unfold topV; split <;> omega
theorem lev_fit {k : Nat} {r : Rat} (hz : SzR k r) (hk : k ≤ 400) (hi : InL r) : errLv (sR r).data.toList = 0 := by
  unfold errLv
  rw [sR_list, chkR_fit (hz.fit (by omega)), if_neg (by decide), valR_rT, if_pos hi]
theorem pcat_fit (A : Option Addr) (n c : Nat) (l : List PT) (hok : OkC l) {k : Nat} {r : Rat} (hz : SzR k r) (hk : k ≤ 400) (hi : InL r) (w : World) (hl : shP.In w A n l) (ht : Tab w) :
    Calls Tryz.prog 45 #[.slice A n c, .string (sR r)] w fun e w' => e = .returned (.tuple #[.string (sR (valC l r)), .int .i64 0]) ∧ Below w.heap.size w w' := by
  obtain ⟨rfl, _⟩ := id hl
  have hf := hok.few
  have := cat_any A l.length c l (sR r) w hl (by omega) (Nat.le_trans hz.len (by omega)) ht
  have he := lev_fit hz hk hi
  have e1 : errC l (sR r) = 0 := by unfold errC; rw [chkC_ok.2 hok, if_neg (by decide), he]
  have e2 : atC l (sR r) = sR (valC l r) := by unfold atC; rw [e1, if_neg (by decide), sR_list, valR_rT]
  rw [e1, e2] at this
  exact this

theorem raw_parts {lo hi : Int} {C : List PT} {r : Rat} (hC : OkC C) (hz : SzR 120 r) (h0 : 0 ≤ lo) (h1 : lo ≤ hi) (h2 : hi ≤ 65535) :
    SzR 120 (clampR r) ∧ SzR 148 (valC C (clampR r)) ∧ SzR 5 (ratD (hi - lo)) ∧ SzR 153 (valC C (clampR r) * ratD (hi - lo)) ∧ 0 ≤ (valC C (clampR r) * ratD (hi - lo) + halfR).floor ∧ (valC C (clampR r) * ratD (hi - lo) + halfR).floor ≤ hi - lo := by
  have a1 := clamp_sz hz (by decide)
  have a2 := hC.val_sz a1 (clamp_in r)
  have a3 : SzR 5 (ratD (hi - lo)) := SzR.red (by decide) (by omega) (by decide)
  have hi' := clamp_in r
  obtain ⟨s1, s2⟩ := scaled (hC.lev hi'.1 hi'.2) (D := hi - lo) (by omega)
  obtain ⟨f1, f2⟩ := floor_between s1 s2
  exact ⟨a1, a2, a3, a2.mul a3, f1, f2⟩
set_option maxRecDepth 100000 in
set_option maxHeartbeats 4000000 in
theorem praw_any (f : FC) (wl : List Slt) (A' : Option Addr) (n' c' : Nat) (H : List Hd) (L : List (List PT)) (s : ByteArray) (w : World) (hw : FW w f wl) (hl : InN w A' n' H L) (hm : ∀ h ∈ H, h.n ≤ 9223372036854775807) (hn : n' ≤ 9223372036854775807) (hs : s.size ≤ 120) (ht : Tab w) (hr : Rng w) :
    Calls Tryz.prog 15 #[f.val, .slice A' n' c', .string s] w fun e w' => e = .returned (.tuple #[.int .i64 (rawV (f.fea wl) L s), .int .i64 (rawE (f.fea wl) L s)]) ∧ Below w.heap.size w w' := by
  have HAl0 := Lib.hid (fun w hw hl => palone_any f wl A' n' c' H L w hw hl hm)
  have HT := Lib.hid ht
  have HRg := Lib.hid hr
  have HChk := Lib.hid (fun w ht => qcheck_any s w (by omega) ht)
  by_cases ha : aloneE (f.fea wl) L = 0
  · rw [ha] at HAl0
    have hE : rawE (f.fea wl) L s = chkR s.data.toList := by unfold rawE; rw [if_neg (fun h => h ha)]
    rcases lev_cases s (by omega) with ⟨hc, -⟩ | ⟨r, hr', -, hv, hc, -⟩
    · have hV : rawV (f.fea wl) L s = 0 := by unfold rawV; rw [hE, if_pos hc]
      rw [hE, hV]
      obtain ⟨at_, bits, co, fi, cu, ho, lo, hi, sn, A, n, c⟩ := f
      have HAl := Lib.hid (show ∀ w', FW w' ⟨at_, bits, co, fi, cu, ho, lo, hi, sn, A, n, c⟩ wl → InN w' A' n' H L → Calls Tryz.prog 43 #[.agg #[.int .i64 at_, .int .i64 bits, .int .i64 co, .int .i64 fi, .int .i64 cu, .int .i64 ho, .int .i64 lo, .int .i64 hi, .bool sn, .slice A n c], .slice A' n' c'] w' fun e w'' => e = .returned (.int .i64 0) ∧ Below w'.heap.size w' w'' from HAl0.out)
      generalize chkR s.data.toList = q at *
      have g1 : (q == 0) = false := by simpa using hc
      have g2 : (q != 0) = true := by simpa using hc
      show Calls Tryz.prog 15 #[.agg #[.int .i64 at_, .int .i64 bits, .int .i64 co, .int .i64 fi, .int .i64 cu, .int .i64 ho, .int .i64 lo, .int .i64 hi, .bool sn, .slice A n c], .slice A' n' c', .string s] w fun e w' => e = .returned (.tuple #[.int .i64 0, .int .i64 q]) ∧ Below w.heap.size w w'
      obtain ⟨W, hW⟩ : ∃ W, W = w.alloc (.cells #[.int .i64 at_, .int .i64 bits, .int .i64 co, .int .i64 fi, .int .i64 cu, .int .i64 ho, .int .i64 lo, .int .i64 hi, .bool sn, .slice A n c] 24) := ⟨_, rfl⟩
      obtain ⟨hB0, hK⟩ := fbox at_ bits co fi cu ho lo hi sn A n c w W hW
      have HK := Lib.hid hK
      have HW := Lib.hid hW
      have HB0 := Lib.hid hB0
      have hB := Below.refl W.heap.size W
      obtain ⟨c0, c1, c2, c3, c4, c5, c6, c7, c8, c9⟩ := hK W hB
      clear hW hB0 hK
      replace HT := Lib.hid (HT.out.below HB0.out)
      replace HRg := Lib.hid (HRg.out.below HB0.out)
      have HL := Lib.hid (hw.below HB0.out)
      have HL2 := Lib.hid (hl.below HB0.out)
      clear HAl0 hE hV hc ha hw hl hm ht hr
      go_enter Tryz.func15, Tryz.ntmps15
      go_wp2_with fail
      rw [← HW.out]
      refine (HAl.out _ (HL.out.below hB) (HL2.out.below hB)).mono ?_
      rintro e wk ⟨rfl, hb⟩
      replace hB := hB.trans (hb.mono hB.size)
      clear hb
      obtain ⟨c0, c1, c2, c3, c4, c5, c6, c7, c8, c9⟩ := HK.out _ hB
      go_wp2_with fail
      refine (HChk.out _ (HT.out.below hB)).mono ?_
      rintro e wk ⟨rfl, hb⟩
      replace hB := hB.trans (hb.mono hB.size)
      clear hb
      obtain ⟨c0, c1, c2, c3, c4, c5, c6, c7, c8, c9⟩ := HK.out _ hB
      go_wp2_with fail
      go_ret2
      exact ⟨rfl, HB0.out.trans (hB.mono HB0.out.size)⟩
    · have hz : SzR 120 r := size_SzR hr' hs (by decide)
      have hV : rawV (f.fea wl) L s = madeR f.lo f.hi (pointsC f.cu L) r := by unfold rawV; rw [hE, hc, if_neg (by decide), hv]; rfl
      rw [hE, hc, hV]
      rw [hc] at HChk
      subst hr'
      obtain ⟨hA, hb, hc0, hc1, -, hl0, hl1, hl2, -⟩ := alone_ok ha
      have hL := hl.2.1
      have hLn := hl.1.1
      have HPt0 := Lib.hid (fun w hl => ppoints_any f A' n' c' H L w hl hc0 (by have : f.cu ≤ L.length := hc1; omega) hn)
      have hC := points_ok hA hc0 hc1
      obtain ⟨at_, bits, co, fi, cu, ho, lo, hi, sn, A, n, c⟩ := f
      replace hl0 : 0 ≤ lo := hl0
      replace hl1 : lo ≤ hi := hl1
      have hl3 : hi ≤ 65535 := Int.le_trans hl2 (topV_le _)
      replace hC : OkC (pointsC cu L) := hC
      have HAl := Lib.hid (show ∀ w', FW w' ⟨at_, bits, co, fi, cu, ho, lo, hi, sn, A, n, c⟩ wl → InN w' A' n' H L → Calls Tryz.prog 43 #[.agg #[.int .i64 at_, .int .i64 bits, .int .i64 co, .int .i64 fi, .int .i64 cu, .int .i64 ho, .int .i64 lo, .int .i64 hi, .bool sn, .slice A n c], .slice A' n' c'] w' fun e w'' => e = .returned (.int .i64 0) ∧ Below w'.heap.size w' w'' from HAl0.out)
      show Calls Tryz.prog 15 #[.agg #[.int .i64 at_, .int .i64 bits, .int .i64 co, .int .i64 fi, .int .i64 cu, .int .i64 ho, .int .i64 lo, .int .i64 hi, .bool sn, .slice A n c], .slice A' n' c', .string (sR r)] w fun e w' => e = .returned (.tuple #[.int .i64 (madeR lo hi (pointsC cu L) r), .int .i64 0]) ∧ Below w.heap.size w w'
      have HPt := Lib.hid (show ∀ w', InN w' A' n' H L → Calls Tryz.prog 46 #[.agg #[.int .i64 at_, .int .i64 bits, .int .i64 co, .int .i64 fi, .int .i64 cu, .int .i64 ho, .int .i64 lo, .int .i64 hi, .bool sn, .slice A n c], .slice A' n' c'] w' fun e w'' => ∃ A2 n2 c2, e = .returned (.slice A2 n2 c2) ∧ shP.In w'' A2 n2 (pointsC cu L) ∧ Below w'.heap.size w' w'' from HPt0.out)
      obtain ⟨z1, z2, z3, z4, b1, b2⟩ := raw_parts hC hz hl0 hl1 hl3
      unfold madeR
      have HWi := Lib.hid (fun w ht hr => pwithin_fit hz (by decide) w ht hr)
      have HAt := Lib.hid (fun A2 n2 c2 w hl ht => pcat_fit A2 n2 c2 (pointsC cu L) hC z1 (by decide) (clamp_in r) w hl ht)
      have HPa := Lib.hid (show ∀ w, Tab w → Calls Tryz.prog 48 #[.int .i64 (hi - lo), .int .i64 65535] w fun e w' => e = .returned (.tuple #[.string (sR (ratD (hi - lo))), .int .i64 0]) ∧ Below w.heap.size w w' from fun w ht => qpart_fit (by omega) (by omega) (by decide) (by decide) (by decide) w ht)
      have HMu := Lib.hid (fun w ht => qMul_fit z2 z3 w ht (by decide))
      have HRo := Lib.hid (fun w ht => qround_fit z4 w ht (by decide))
      generalize hfl : (valC (pointsC cu L) (clampR r) * ratD (hi - lo) + halfR).floor = fl at *
      have HSm := Lib.hid (fun w hr => small_fit (x := fl) (fit_lt (k := 6) (by omega) (by decide)) (by omega) (by omega) w hr)
      have w1 : IntKind.i64.wrap (hi - lo) = hi - lo := IntWalk.i64_in _ (by omega)
      have w2 : IntKind.i64.wrap (lo + fl) = lo + fl := IntWalk.i64_in _ (by omega)
      clear HPt0 HAl0 hfl ha hA hb hc0 hc1 hl0 hl1 hl2 hl3 hC z1 z2 z3 z4 b1 b2 hz hL hLn hE hV hc hv
      obtain ⟨W, hW⟩ : ∃ W, W = w.alloc (.cells #[.int .i64 at_, .int .i64 bits, .int .i64 co, .int .i64 fi, .int .i64 cu, .int .i64 ho, .int .i64 lo, .int .i64 hi, .bool sn, .slice A n c] 24) := ⟨_, rfl⟩
      obtain ⟨hB0, hK⟩ := fbox at_ bits co fi cu ho lo hi sn A n c w W hW
      have HK := Lib.hid hK
      have HW := Lib.hid hW
      have HB0 := Lib.hid hB0
      have hB := Below.refl W.heap.size W
      obtain ⟨c0, c1, c2, c3, c4, c5, c6, c7, c8, c9⟩ := hK W hB
      clear hW hB0 hK
      replace HT := Lib.hid (HT.out.below HB0.out)
      replace HRg := Lib.hid (HRg.out.below HB0.out)
      have HL := Lib.hid (hw.below HB0.out)
      have HL2 := Lib.hid (hl.below HB0.out)
      clear hw hl hm ht hr
      generalize sR (valC (pointsC cu L) (clampR r)) = Y at *
      generalize sR (valC (pointsC cu L) (clampR r) * ratD (hi - lo)) = P at *
      generalize sR (clampR r) = V2 at *
      generalize sR r = V at *
      generalize sR (ratD (hi - lo)) = D at *
      generalize sI fl = FL at *
      generalize pointsC cu L = C at *
      go_enter Tryz.func15, Tryz.ntmps15
      go_wp2_with fail
      rw [← HW.out]
      refine (HAl.out _ (HL.out.below hB) (HL2.out.below hB)).mono ?_
      rintro e wk ⟨rfl, hb⟩
      replace hB := hB.trans (hb.mono hB.size)
      clear hb
      obtain ⟨c0, c1, c2, c3, c4, c5, c6, c7, c8, c9⟩ := HK.out _ hB
      go_wp2_with fail
      refine (HChk.out _ (HT.out.below hB)).mono ?_
      rintro e wk ⟨rfl, hb⟩
      replace hB := hB.trans (hb.mono hB.size)
      clear hb
      obtain ⟨c0, c1, c2, c3, c4, c5, c6, c7, c8, c9⟩ := HK.out _ hB
      go_wp2_with fail
      refine (HPt.out _ (HL2.out.below hB)).mono ?_
      rintro e wk ⟨A2, n2, d2, rfl, hi2, hb⟩
      replace hB := hB.trans (hb.mono hB.size)
      clear hb
      go_wp2_with fail
      refine (HWi.out _ (HT.out.below hB) (HRg.out.below hB)).mono ?_
      rintro e wk ⟨rfl, hb⟩
      have hi2 := hi2.below hb
      replace hB := hB.trans (hb.mono hB.size)
      clear hb
      go_wp2_with fail
      refine (HAt.out _ _ _ _ hi2 (HT.out.below hB)).mono ?_
      rintro e wk ⟨rfl, hb⟩
      replace hB := hB.trans (hb.mono hB.size)
      clear hb hi2
      obtain ⟨c0, c1, c2, c3, c4, c5, c6, c7, c8, c9⟩ := HK.out _ hB
      go_wp2_with fail
      refine (HPa.out _ (HT.out.below hB)).mono ?_
      rintro e wk ⟨rfl, hb⟩
      replace hB := hB.trans (hb.mono hB.size)
      clear hb
      obtain ⟨c0, c1, c2, c3, c4, c5, c6, c7, c8, c9⟩ := HK.out _ hB
      go_wp2_with fail
      refine (HMu.out _ (HT.out.below hB)).mono ?_
      rintro e wk ⟨rfl, hb⟩
      replace hB := hB.trans (hb.mono hB.size)
      clear hb
      obtain ⟨c0, c1, c2, c3, c4, c5, c6, c7, c8, c9⟩ := HK.out _ hB
      go_wp2_with fail
      refine (HRo.out _ (HT.out.below hB)).mono ?_
      rintro e wk ⟨rfl, hb⟩
      replace hB := hB.trans (hb.mono hB.size)
      clear hb
      obtain ⟨c0, c1, c2, c3, c4, c5, c6, c7, c8, c9⟩ := HK.out _ hB
      go_wp2_with fail
      refine (HSm.out _ (HRg.out.below hB)).mono ?_
      rintro e wk ⟨rfl, hb⟩
      replace hB := hB.trans (hb.mono hB.size)
      clear hb
      obtain ⟨c0, c1, c2, c3, c4, c5, c6, c7, c8, c9⟩ := HK.out _ hB
      go_wp2_with fail
      go_ret2
      exact ⟨rfl, HB0.out.trans (hB.mono HB0.out.size)⟩
  · have hE : rawE (f.fea wl) L s = aloneE (f.fea wl) L := by unfold rawE; rw [if_pos ha]
    have hV : rawV (f.fea wl) L s = 0 := by unfold rawV; rw [hE, if_pos ha]
    rw [hE, hV]
    generalize aloneE (f.fea wl) L = q at *
    have g1 : (q == 0) = false := by simpa using ha
    have g2 : (q != 0) = true := by simpa using ha
    obtain ⟨at_, bits, co, fi, cu, ho, lo, hi, sn, A, n, c⟩ := f
    have HAl := Lib.hid (show ∀ w', FW w' ⟨at_, bits, co, fi, cu, ho, lo, hi, sn, A, n, c⟩ wl → InN w' A' n' H L → Calls Tryz.prog 43 #[.agg #[.int .i64 at_, .int .i64 bits, .int .i64 co, .int .i64 fi, .int .i64 cu, .int .i64 ho, .int .i64 lo, .int .i64 hi, .bool sn, .slice A n c], .slice A' n' c'] w' fun e w'' => e = .returned (.int .i64 q) ∧ Below w'.heap.size w' w'' from HAl0.out)
    show Calls Tryz.prog 15 #[.agg #[.int .i64 at_, .int .i64 bits, .int .i64 co, .int .i64 fi, .int .i64 cu, .int .i64 ho, .int .i64 lo, .int .i64 hi, .bool sn, .slice A n c], .slice A' n' c', .string s] w fun e w' => e = .returned (.tuple #[.int .i64 0, .int .i64 q]) ∧ Below w.heap.size w w'
    obtain ⟨W, hW⟩ : ∃ W, W = w.alloc (.cells #[.int .i64 at_, .int .i64 bits, .int .i64 co, .int .i64 fi, .int .i64 cu, .int .i64 ho, .int .i64 lo, .int .i64 hi, .bool sn, .slice A n c] 24) := ⟨_, rfl⟩
    obtain ⟨hB0, hK⟩ := fbox at_ bits co fi cu ho lo hi sn A n c w W hW
    have HK := Lib.hid hK
    have HW := Lib.hid hW
    have HB0 := Lib.hid hB0
    have hB := Below.refl W.heap.size W
    obtain ⟨c0, c1, c2, c3, c4, c5, c6, c7, c8, c9⟩ := hK W hB
    clear hW hB0 hK
    have HL := Lib.hid (hw.below HB0.out)
    have HL2 := Lib.hid (hl.below HB0.out)
    clear HAl0 hE hV ha hw hl hm
    go_enter Tryz.func15, Tryz.ntmps15
    go_wp2_with fail
    rw [← HW.out]
    refine (HAl.out _ (HL.out.below hB) (HL2.out.below hB)).mono ?_
    rintro e wk ⟨rfl, hb⟩
    replace hB := hB.trans (hb.mono hB.size)
    clear hb
    obtain ⟨c0, c1, c2, c3, c4, c5, c6, c7, c8, c9⟩ := HK.out _ hB
    go_wp2_with fail
    go_ret2
    exact ⟨rfl, HB0.out.trans (hB.mono HB0.out.size)⟩
end Go.Proofs.YtpinmgoeapakdaaGreatDoor

namespace Go.Proofs.YtpinmgoeapakdaaGreatDoor
open Go.RowKit

def kindV (a : Int) : Int := if a = 0 then 0 else if a ≤ 2 then 1 else if a ≤ 10 then 2 else 3
def classE (a : Int) : Int := if a < 0 ∨ 15 ≤ a then 1 else 0
def classV (a : Int) : Int := if a < 0 ∨ 15 ≤ a then 0 else kindV a
theorem attr_cases {a : Int} (h0 : ¬ a < 0) (h1 : ¬ 15 ≤ a) : a = 0 ∨ a = 1 ∨ a = 2 ∨ a = 3 ∨ a = 4 ∨ a = 5 ∨ a = 6 ∨ a = 7 ∨ a = 8 ∨ a = 9 ∨ a = 10 ∨ a = 11 ∨ a = 12 ∨ a = 13 ∨ a = 14 := by omega
set_option maxHeartbeats 4000000 in
theorem pclass_any (a : Int) (w : World) : Calls Tryz.prog 22 #[.int .i64 a] w fun e w' => e = .returned (.tuple #[.int .i64 (classV a), .int .i64 (classE a)]) ∧ Below w.heap.size w w' := by
  have hB := Below.refl w.heap.size w
  by_cases h0 : a < 0
  · rw [show classV a = 0 from if_pos (.inl h0), show classE a = 1 from if_pos (.inl h0)]
    go_enter Tryz.func22, Tryz.ntmps22
    go_wp2
    go_ret2
    exact ⟨rfl, hB⟩
  · by_cases h1 : 15 ≤ a
    · rw [show classV a = 0 from if_pos (.inr h1), show classE a = 1 from if_pos (.inr h1)]
      have d0 : decide (a < 0) = false := decide_eq_false h0
      go_enter Tryz.func22, Tryz.ntmps22
      go_wp2
      go_ret2
      exact ⟨rfl, hB⟩
    · rcases attr_cases h0 h1 with rfl | rfl | rfl | rfl | rfl | rfl | rfl | rfl | rfl | rfl | rfl | rfl | rfl | rfl | rfl
      all_goals
        clear h0 h1
        go_enter Tryz.func22, Tryz.ntmps22
        go_wp2
        go_ret2
        exact ⟨rfl, hB⟩
structure SCell (P : Nat) (w : World) : Prop where
  lt : P < w.heap.size
  k0 : w.cell? ⟨P, 0, none⟩ = some (.string ⟨#[]⟩)
  k1 : w.cell? ⟨P, 1, none⟩ = some (.int .i64 0)
  k2 : w.cell? ⟨P, 2, none⟩ = some (.int .i64 0)
  f0 : w.frozen? ⟨P, 0, none⟩ = false
  f1 : w.frozen? ⟨P, 1, none⟩ = false
  f2 : w.frozen? ⟨P, 2, none⟩ = false
theorem SCell.below {P : Nat} {w w' : World} (h : SCell P w) (hP : P < w.heap.size) (hb : Below w.heap.size w w') : SCell P w' := by
  obtain ⟨hcc, hcf⟩ := bcell hb
  exact ⟨Nat.lt_of_lt_of_le h.lt hb.size, (hcc _ _ hP).trans h.k0, (hcc _ _ hP).trans h.k1, (hcc _ _ hP).trans h.k2, (hcf _ _ hP).trans h.f0, (hcf _ _ hP).trans h.f1, (hcf _ _ hP).trans h.f2⟩
theorem SCell.fresh (w : World) (P : Nat) (h : P = w.heap.size) : SCell P (w.alloc (.cells #[.string ⟨#[]⟩, .int .i64 0, .int .i64 0] 49)) := by
  subst h
  exact ⟨by simp, by rw [World.cell?_alloc_new]; rfl, by rw [World.cell?_alloc_new]; rfl, by rw [World.cell?_alloc_new]; rfl, World.frozen?_alloc_new .., World.frozen?_alloc_new .., World.frozen?_alloc_new ..⟩

def hitV (l : List Slt) (i : Int) : Slt := if i < 0 then slt0 else l.getD i.toNat slt0
def hitE (i : Int) : Int := if i < 0 then 6 else 0
set_option maxRecDepth 100000 in
set_option maxHeartbeats 4000000 in
theorem pslot_any (f : FC) (wl : List Slt) (g : Nat) (cb : Array Value) (p : Slt → Bool) (w : World) (hw : FW w f wl) (eg : ∀ args w, (callFunc g args).run Tryz.prog w = .ok (.enter g args) w)
    (hf : ∀ i (h : i < wl.length) (W : World), Below w.heap.size w W → Calls Tryz.prog g (#[.agg #[.string wl[i].s, .int .i64 wl[i].a, .int .i64 wl[i].z]] ++ cb) W fun e w' => e = .returned (.bool (p wl[i])) ∧ Below W.heap.size W w') :
    Calls Tryz.prog 56 #[f.val, .func (.func g) #[] cb] w fun e w' => e = .returned (.tuple #[.agg #[.string (hitV wl (idxOf p wl)).s, .int .i64 (hitV wl (idxOf p wl)).a, .int .i64 (hitV wl (idxOf p wl)).z], .int .i64 (hitE (idxOf p wl))]) ∧ Below w.heap.size w w' := by
  obtain ⟨at_, bits, co, fi, cu, ho, lo, hi, sn, A, n, c⟩ := f
  obtain rfl : n = wl.length := hw.1.1
  show Calls Tryz.prog 56 #[.agg #[.int .i64 at_, .int .i64 bits, .int .i64 co, .int .i64 fi, .int .i64 cu, .int .i64 ho, .int .i64 lo, .int .i64 hi, .bool sn, .slice A wl.length c], .func (.func g) #[] cb] w fun e w' => e = .returned (.tuple #[.agg #[.string (hitV wl (idxOf p wl)).s, .int .i64 (hitV wl (idxOf p wl)).a, .int .i64 (hitV wl (idxOf p wl)).z], .int .i64 (hitE (idxOf p wl))]) ∧ Below w.heap.size w w'
  obtain ⟨W1, hW1⟩ : ∃ W1, W1 = w.alloc (.cells #[.int .i64 at_, .int .i64 bits, .int .i64 co, .int .i64 fi, .int .i64 cu, .int .i64 ho, .int .i64 lo, .int .i64 hi, .bool sn, .slice A wl.length c] 24) := ⟨_, rfl⟩
  obtain ⟨hB1, hK1⟩ := fbox at_ bits co fi cu ho lo hi sn A wl.length c w W1 hW1
  have hs1 : W1.heap.size = w.heap.size + 1 := by rw [hW1]; simp
  obtain ⟨W, hW⟩ : ∃ W, W = W1.alloc (.cells #[.string ⟨#[]⟩, .int .i64 0, .int .i64 0] 49) := ⟨_, rfl⟩
  have hB2 : Below W1.heap.size W1 W := by rw [hW]; exact (Below.refl _ _).alloc (Nat.le_refl _) _
  have HR := Lib.hid (show SCell (w.heap.size + 1) W by rw [hW]; exact SCell.fresh _ _ hs1.symm)
  have HK := Lib.hid (fun w' (h : Below W.heap.size W w') => hK1 w' (hB2.trans (h.mono hB2.size)))
  have HB0 := Lib.hid (hB1.trans (hB2.mono hB1.size))
  have HW := Lib.hid (show W = (w.alloc (.cells #[.int .i64 at_, .int .i64 bits, .int .i64 co, .int .i64 fi, .int .i64 cu, .int .i64 ho, .int .i64 lo, .int .i64 hi, .bool sn, .slice A wl.length c] 24)).alloc (.cells #[.string ⟨#[]⟩, .int .i64 0, .int .i64 0] 49) by rw [hW, hW1])
  have hB := Below.refl W.heap.size W
  obtain ⟨c0, c1, c2, c3, c4, c5, c6, c7, c8, c9⟩ := HK.out W hB
  have HIx := Lib.hid (fun w' (hw' : Below W.heap.size W w') => index_sl g cb p A wl.length c wl w' eg ((hw.1.below HB0.out).below hw') (by have h1 : wl.length ≤ c ∧ c ≤ 9223372036854775807 := hw.2.1; omega) (fun i h W' hW' => hf i h W' (HB0.out.trans ((hw'.trans (hW'.mono hw'.size)).mono HB0.out.size))))
  have HL := Lib.hid (hw.1.below HB0.out)
  have hge := idxOf_ge (p := p) wl
  have hlt := idxOf_lt (p := p) wl
  clear hf hw hW hW1 hB1 hB2 hK1 hs1
  generalize idxOf p wl = ix at *
  have fin : ∀ (s : ByteArray) (x z : Int) (w' : World), SCell (w.heap.size + 1) w' → Below W.heap.size W w' → Below w.heap.size w (((w'.setCell ⟨w.heap.size + 1, 0, none⟩ (.string s)).setCell ⟨w.heap.size + 1, 1, none⟩ (.int .i64 x)).setCell ⟨w.heap.size + 1, 2, none⟩ (.int .i64 z)) := fun s x z w' hr hb => by
    have h1 := HB0.out.trans (hb.mono HB0.out.size)
    exact ((h1.setCell (by simp) _).setCell (by simp) _).setCell (by simp) _
  have HFin := Lib.hid fin
  clear fin
  by_cases h0 : ix < 0
  · rw [show hitV wl ix = slt0 from if_pos h0, show hitE ix = 6 from if_pos h0]
    show Calls Tryz.prog 56 #[.agg #[.int .i64 at_, .int .i64 bits, .int .i64 co, .int .i64 fi, .int .i64 cu, .int .i64 ho, .int .i64 lo, .int .i64 hi, .bool sn, .slice A wl.length c], .func (.func g) #[] cb] w fun e w' => e = .returned (.tuple #[.agg #[.string ⟨#[]⟩, .int .i64 0, .int .i64 0], .int .i64 6]) ∧ Below w.heap.size w w'
    go_enter Tryz.func56, Tryz.ntmps56
    go_wp2_with fail
    rw [← HW.out]
    refine (HIx.out _ hB).mono ?_
    rintro e wk ⟨rfl, hb⟩
    replace hB := hB.trans (hb.mono hB.size)
    clear hb
    obtain ⟨c0, c1, c2, c3, c4, c5, c6, c7, c8, c9⟩ := HK.out _ hB
    obtain ⟨lt, k0, k1, k2, f0, f1, f2⟩ := HR.out.below HR.out.lt hB
    have HR2 := Lib.hid (HR.out.below HR.out.lt hB)
    go_wp2_with fail
    refine bodyPost_ret ?_ rfl ⟨rfl, ?_⟩
    · rw [results_cell_tmp rfl]
      go_simp
    · exact HFin.out _ _ _ wk HR2.out hB
  · obtain ⟨k, rfl⟩ : ∃ k : Nat, ix = k := ⟨ix.toNat, by omega⟩
    have hk : k < wl.length := by omega
    rw [show hitV wl (k : Int) = wl[k] by unfold hitV; rw [if_neg h0, show ((k : Nat) : Int).toNat = k by omega, getD_of hk], show hitE (k : Int) = 0 from if_neg h0]
    obtain ⟨b, o, rfl, hbl, hcell⟩ := sl_at HL.out (by omega)
    obtain ⟨p0, p1, p2⟩ := hcell k hk
    have HP := Lib.hid (fun w' (h : Below W.heap.size W w') => show w'.cell? ⟨b, o + k * 3, none⟩ = some (.string wl[k].s) ∧ w'.cell? ⟨b, o + k * 3 + 1, none⟩ = some (.int .i64 wl[k].a) ∧ w'.cell? ⟨b, o + k * 3 + 2, none⟩ = some (.int .i64 wl[k].z) from
      ⟨(h.cell (p := ⟨b, o + k * 3, none⟩) hbl).trans p0, (h.cell (p := ⟨b, o + k * 3 + 1, none⟩) hbl).trans p1, (h.cell (p := ⟨b, o + k * 3 + 2, none⟩) hbl).trans p2⟩)
    have i0 : (0 : Int) ≤ (k : Int) := by omega
    have i1 : (k : Int) < (wl.length : Int) := by omega
    clear hcell p0 p1 p2
    generalize wl[k].s = xs at *
    generalize wl[k].a = xa at *
    generalize wl[k].z = xz at *
    go_enter Tryz.func56, Tryz.ntmps56
    go_wp2_with fail
    rw [← HW.out]
    refine (HIx.out _ hB).mono ?_
    rintro e wk ⟨rfl, hb⟩
    replace hB := hB.trans (hb.mono hB.size)
    clear hb
    obtain ⟨c0, c1, c2, c3, c4, c5, c6, c7, c8, c9⟩ := HK.out _ hB
    obtain ⟨lt, k0, k1, k2, f0, f1, f2⟩ := HR.out.below HR.out.lt hB
    have HR2 := Lib.hid (HR.out.below HR.out.lt hB)
    obtain ⟨p0, p1, p2⟩ := HP.out _ hB
    have hbk : b < wk.heap.size := Nat.lt_of_lt_of_le hbl hB.size
    go_wp2_with fail
    refine bodyPost_ret ?_ rfl ⟨rfl, ?_⟩
    · rw [results_cell_tmp rfl]
      go_simp
    · exact HFin.out _ _ _ wk HR2.out hB
theorem fbox2 (at_ bits co fi cu ho lo hi : Int) (sn : Bool) (A : Option Addr) (n c : Nat) (u : Value) (t : TypeId) (w W : World) (hW : W = (w.alloc (.cells #[.int .i64 at_, .int .i64 bits, .int .i64 co, .int .i64 fi, .int .i64 cu, .int .i64 ho, .int .i64 lo, .int .i64 hi, .bool sn, .slice A n c] 24)).alloc (.cells #[u] t)) :
    Below w.heap.size w W ∧ ∀ w', Below W.heap.size W w' → w'.cell? ⟨w.heap.size, 0, none⟩ = some (.int .i64 at_) ∧ w'.cell? ⟨w.heap.size, 1, none⟩ = some (.int .i64 bits) ∧ w'.cell? ⟨w.heap.size, 2, none⟩ = some (.int .i64 co) ∧ w'.cell? ⟨w.heap.size, 3, none⟩ = some (.int .i64 fi) ∧ w'.cell? ⟨w.heap.size, 4, none⟩ = some (.int .i64 cu) ∧ w'.cell? ⟨w.heap.size, 5, none⟩ = some (.int .i64 ho) ∧ w'.cell? ⟨w.heap.size, 6, none⟩ = some (.int .i64 lo) ∧ w'.cell? ⟨w.heap.size, 7, none⟩ = some (.int .i64 hi) ∧ w'.cell? ⟨w.heap.size, 8, none⟩ = some (.bool sn) ∧ w'.cell? ⟨w.heap.size, 9, none⟩ = some (.slice A n c) ∧ w'.cell? ⟨w.heap.size + 1, 0, none⟩ = some u := by
  obtain ⟨W1, hW1⟩ : ∃ W1, W1 = w.alloc (.cells #[.int .i64 at_, .int .i64 bits, .int .i64 co, .int .i64 fi, .int .i64 cu, .int .i64 ho, .int .i64 lo, .int .i64 hi, .bool sn, .slice A n c] 24) := ⟨_, rfl⟩
  rw [← hW1] at hW
  obtain ⟨b1, k1⟩ := fbox at_ bits co fi cu ho lo hi sn A n c w W1 hW1
  have hs1 : W1.heap.size = w.heap.size + 1 := by rw [hW1]; simp
  have b2 : Below W1.heap.size W1 W := by rw [hW]; exact (Below.refl _ _).alloc (Nat.le_refl _) _
  have hsW : W.heap.size = W1.heap.size + 1 := by rw [hW]; simp
  refine ⟨b1.trans (b2.mono b1.size), fun w' h => ?_⟩
  obtain ⟨e0, e1, e2, e3, e4, e5, e6, e7, e8, e9⟩ := k1 w' (b2.trans (h.mono b2.size))
  refine ⟨e0, e1, e2, e3, e4, e5, e6, e7, e8, e9, ?_⟩
  rw [← hs1]
  refine (h.cell (p := ⟨W1.heap.size, 0, none⟩) (show W1.heap.size < W.heap.size by omega)).trans ?_
  rw [hW, World.cell?_alloc_new]; rfl
set_option maxHeartbeats 1000000 in
theorem pslc_any (P : Nat) (v : Int) (s : ByteArray) (a z : Int) (w : World) (hP : P < w.heap.size) (cv : w.cell? ⟨P, 0, none⟩ = some (.int .i64 v)) :
    Calls Tryz.prog 57 (#[.agg #[.string s, .int .i64 a, .int .i64 z]] ++ #[.pointer (some ⟨P, 0, none⟩)]) w fun e w' => e = .returned (.bool (decide (a ≤ v) && decide (v ≤ z))) ∧ Below w.heap.size w w' := by
  have hB : ∀ o, Below w.heap.size w (w.alloc o) := fun o => (Below.refl _ _).alloc (Nat.le_refl _) _
  have hne : P ≠ w.heap.size := by omega
  by_cases h1 : a ≤ v
  · rw [decide_eq_true h1]
    go_enter Tryz.func57, Tryz.ntmps57
    go_wp2_with fail
    go_ret
    exact ⟨ret_b (by simp), hB _⟩
  · rw [decide_eq_false h1]
    go_enter Tryz.func57, Tryz.ntmps57
    go_wp2_with fail
    go_ret
    exact ⟨ret_b (by simp), hB _⟩
set_option maxHeartbeats 1000000 in
theorem pmdc_any (P : Nat) (v s : ByteArray) (a z : Int) (w : World) (hP : P < w.heap.size) (cv : w.cell? ⟨P, 0, none⟩ = some (.string v)) :
    Calls Tryz.prog 60 (#[.agg #[.string s, .int .i64 a, .int .i64 z]] ++ #[.pointer (some ⟨P, 0, none⟩)]) w fun e w' => e = .returned (.bool (decide (s = v))) ∧ Below w.heap.size w w' := by
  have hB : ∀ o, Below w.heap.size w (w.alloc o) := fun o => (Below.refl _ _).alloc (Nat.le_refl _) _
  have hne : P ≠ w.heap.size := by omega
  rw [← bytes_bq]
  go_enter Tryz.func60, Tryz.ntmps60
  go_wp2_with fail
  go_ret
  exact ⟨rfl, hB _⟩
set_option maxHeartbeats 4000000 in
theorem pSlot_any (f : FC) (wl : List Slt) (v : Int) (w : World) (hw : FW w f wl) :
    Calls Tryz.prog 17 #[f.val, .int .i64 v] w fun e w' => e = .returned (.tuple #[.string (slotV (f.fea wl) v), .int .i64 (slotE (f.fea wl) v)]) ∧ Below w.heap.size w w' := by
  have HB1 := Lib.hid (fun w hw => pbare_any f wl w hw)
  have HS1 := Lib.hid (fun g cb p w hw eg hf => pslot_any f wl g cb p w hw eg hf)
  have HLv := Lib.hid (fun w => plevel_any v w)
  obtain ⟨q, hq0⟩ : ∃ q, bareE (f.fea wl) = q := ⟨_, rfl⟩
  have hE : slotE (f.fea wl) v = if q ≠ 0 then q else if ¬ isLev v then 2 else if slotI wl v < 0 then 6 else 0 := by unfold slotE; rw [hq0]; rfl
  have hV : slotV (f.fea wl) v = if slotE (f.fea wl) v ≠ 0 then ⟨#[]⟩ else (wl.getD (slotI wl v).toNat slt0).s := rfl
  rw [hq0] at HB1
  rw [hV, hE]
  clear hV hE hq0
  obtain ⟨at_, bits, co, fi, cu, ho, lo, hi, sn, A, n, c⟩ := f
  have HBa := Lib.hid (show ∀ w', FW w' ⟨at_, bits, co, fi, cu, ho, lo, hi, sn, A, n, c⟩ wl → Calls Tryz.prog 54 #[.agg #[.int .i64 at_, .int .i64 bits, .int .i64 co, .int .i64 fi, .int .i64 cu, .int .i64 ho, .int .i64 lo, .int .i64 hi, .bool sn, .slice A n c]] w' fun e w'' => e = .returned (.int .i64 q) ∧ Below w'.heap.size w' w'' from HB1.out)
  show Calls Tryz.prog 17 #[.agg #[.int .i64 at_, .int .i64 bits, .int .i64 co, .int .i64 fi, .int .i64 cu, .int .i64 ho, .int .i64 lo, .int .i64 hi, .bool sn, .slice A n c], .int .i64 v] w fun e w' => e = .returned (.tuple #[.string (if (if q ≠ 0 then q else if ¬ isLev v then 2 else if slotI wl v < 0 then 6 else 0) ≠ 0 then ⟨#[]⟩ else (wl.getD (slotI wl v).toNat slt0).s), .int .i64 (if q ≠ 0 then q else if ¬ isLev v then 2 else if slotI wl v < 0 then 6 else 0)]) ∧ Below w.heap.size w w'
  obtain ⟨W, hW⟩ : ∃ W, W = (w.alloc (.cells #[.int .i64 at_, .int .i64 bits, .int .i64 co, .int .i64 fi, .int .i64 cu, .int .i64 ho, .int .i64 lo, .int .i64 hi, .bool sn, .slice A n c] 24)).alloc (.cells #[.int .i64 v] 3) := ⟨_, rfl⟩
  obtain ⟨hB0, hK⟩ := fbox2 at_ bits co fi cu ho lo hi sn A n c (.int .i64 v) 3 w W hW
  have HK := Lib.hid hK
  have HW := Lib.hid hW
  have HB0 := Lib.hid hB0
  have hB := Below.refl W.heap.size W
  obtain ⟨c0, c1, c2, c3, c4, c5, c6, c7, c8, c9, cv⟩ := hK W hB
  clear hW hB0 hK
  have HL := Lib.hid (hw.below HB0.out)
  have hsz : w.heap.size + 1 < W.heap.size := by rw [HW.out]; simp
  have HSl := Lib.hid (show ∀ w', Below W.heap.size W w' → Calls Tryz.prog 56 #[.agg #[.int .i64 at_, .int .i64 bits, .int .i64 co, .int .i64 fi, .int .i64 cu, .int .i64 ho, .int .i64 lo, .int .i64 hi, .bool sn, .slice A n c], .func (.func 57) #[] #[.pointer (some ⟨w.heap.size + 1, 0, none⟩)]] w' fun e w'' => e = .returned (.tuple #[.agg #[.string (hitV wl (slotI wl v)).s, .int .i64 (hitV wl (slotI wl v)).a, .int .i64 (hitV wl (slotI wl v)).z], .int .i64 (hitE (slotI wl v))]) ∧ Below w'.heap.size w' w'' from fun w' hb' =>
    HS1.out 57 #[.pointer (some ⟨w.heap.size + 1, 0, none⟩)] (fun x => decide (x.a ≤ v) && decide (v ≤ x.z)) w' (HL.out.below hb') (enters_of Tryz.func57 (by kernel_rfl) rfl)
      (fun i h W' hW' => by
        obtain ⟨-, -, -, -, -, -, -, -, -, -, cv⟩ := HK.out W' (hb'.trans (hW'.mono hb'.size))
        exact pslc_any _ v _ _ _ W' (Nat.lt_of_lt_of_le hsz (Nat.le_trans hb'.size hW'.size)) cv))
  clear HS1 HB1 hw hsz
  by_cases hq : q = 0
  · subst hq
    rw [if_neg (show ¬ ((0 : Int) ≠ 0) from fun h => h rfl)]
    by_cases hv : isLev v
    · rw [decide_eq_true hv] at HLv
      rw [if_neg (show ¬ ¬ isLev v from fun h => h hv)]
      have hres : (if (if slotI wl v < 0 then (6 : Int) else 0) ≠ 0 then (⟨#[]⟩ : ByteArray) else (wl.getD (slotI wl v).toNat slt0).s) = (hitV wl (slotI wl v)).s ∧ (if slotI wl v < 0 then (6 : Int) else 0) = hitE (slotI wl v) := by
        unfold hitV hitE
        by_cases h : slotI wl v < 0
        · simp [h, slt0]
        · simp [h]
      rw [hres.1, hres.2]
      clear hres
      generalize (hitV wl (slotI wl v)).s = hs at *
      generalize (hitV wl (slotI wl v)).a = ha at *
      generalize (hitV wl (slotI wl v)).z = hz at *
      generalize hitE (slotI wl v) = he at *
      go_enter Tryz.func17, Tryz.ntmps17
      go_wp2_with fail
      rw [← HW.out]
      refine (HBa.out _ (HL.out.below hB)).mono ?_
      rintro e wk ⟨rfl, hb⟩
      replace hB := hB.trans (hb.mono hB.size)
      clear hb
      obtain ⟨c0, c1, c2, c3, c4, c5, c6, c7, c8, c9, cv⟩ := HK.out _ hB
      go_wp2_with fail
      refine (HLv.out _).mono ?_
      rintro e wk ⟨rfl, hb⟩
      replace hB := hB.trans (hb.mono hB.size)
      clear hb
      obtain ⟨c0, c1, c2, c3, c4, c5, c6, c7, c8, c9, cv⟩ := HK.out _ hB
      go_wp2_with fail
      refine (HSl.out _ hB).mono ?_
      rintro e wk ⟨rfl, hb⟩
      replace hB := hB.trans (hb.mono hB.size)
      go_wp2_with fail
      go_ret2
      exact ⟨rfl, HB0.out.trans ((hB.alloc hB.size _).mono HB0.out.size)⟩
    · rw [decide_eq_false hv] at HLv
      rw [if_pos hv]
      clear HSl
      go_enter Tryz.func17, Tryz.ntmps17
      go_wp2_with fail
      rw [← HW.out]
      refine (HBa.out _ (HL.out.below hB)).mono ?_
      rintro e wk ⟨rfl, hb⟩
      replace hB := hB.trans (hb.mono hB.size)
      clear hb
      obtain ⟨c0, c1, c2, c3, c4, c5, c6, c7, c8, c9, cv⟩ := HK.out _ hB
      go_wp2_with fail
      refine (HLv.out _).mono ?_
      rintro e wk ⟨rfl, hb⟩
      replace hB := hB.trans (hb.mono hB.size)
      clear hb
      obtain ⟨c0, c1, c2, c3, c4, c5, c6, c7, c8, c9, cv⟩ := HK.out _ hB
      go_wp2_with fail
      go_ret2
      exact ⟨rfl, HB0.out.trans (hB.mono HB0.out.size)⟩
  · rw [if_pos hq, if_pos hq]
    have g1 : (q == 0) = false := by simpa using hq
    have g2 : (q != 0) = true := by simpa using hq
    clear HSl hq
    go_enter Tryz.func17, Tryz.ntmps17
    go_wp2_with fail
    rw [← HW.out]
    refine (HBa.out _ (HL.out.below hB)).mono ?_
    rintro e wk ⟨rfl, hb⟩
    replace hB := hB.trans (hb.mono hB.size)
    clear hb
    obtain ⟨c0, c1, c2, c3, c4, c5, c6, c7, c8, c9, cv⟩ := HK.out _ hB
    go_wp2_with fail
    go_ret2
    exact ⟨rfl, HB0.out.trans (hB.mono HB0.out.size)⟩
end Go.Proofs.YtpinmgoeapakdaaGreatDoor

namespace Go.Proofs.YtpinmgoeapakdaaGreatDoor
open Go.RowKit

theorem wheel_ok {l : List Slt} (h : wheelE l = 0) : l.length ≤ 16 ∧ ∀ i, i < l.length → whE l i = 0 := by
  unfold wheelE at h
  by_cases h1 : 16 < l.length
  · rw [if_pos h1] at h; exact absurd h (by decide)
  · rw [if_neg h1] at h
    exact ⟨by omega, fun i hi => firstE_zero h i hi⟩
theorem wh_ok {l : List Slt} {k : Nat} (hk : k < l.length) (h : whE l k = 0) : nmB l[k].s = true ∧ (l.take k).any (fun x => decide (x.s = l[k].s)) = false ∧ (isLev l[k].a ∧ isLev l[k].z ∧ l[k].a ≤ l[k].z) ∧ ¬ (0 < k ∧ l[k].a ≤ (l.getD (k - 1) slt0).z) := by
  unfold whE at h
  rw [getD_of hk] at h
  by_cases h1 : nmB l[k].s = false
  · rw [if_pos h1] at h; exact absurd h (by decide)
  · rw [if_neg h1] at h
    by_cases h2 : (l.take k).any (fun x => decide (x.s = l[k].s)) = true
    · rw [if_pos h2] at h; exact absurd h (by decide)
    · rw [if_neg h2] at h
      by_cases h3 : ¬ (isLev l[k].a ∧ isLev l[k].z ∧ l[k].a ≤ l[k].z)
      · rw [if_pos h3] at h; exact absurd h (by decide)
      · rw [if_neg h3] at h
        by_cases h4 : 0 < k ∧ l[k].a ≤ (l.getD (k - 1) slt0).z
        · rw [if_pos h4] at h; exact absurd h (by decide)
        · exact ⟨by simpa using h1, by simpa using h2, Classical.not_not.1 h3, h4⟩
theorem bare_ok {f : Fea} (h : bareE f = 0) : (f.bits = 8 ∨ f.bits = 16) ∧ isLev f.ho ∧ 0 ≤ f.lo ∧ f.lo ≤ f.hi ∧ f.hi ≤ topV f.bits ∧ wheelE f.wh = 0 := by
  unfold bareE at h
  by_cases hb : bitsE f = 0
  · rw [if_neg (fun hn => hn hb)] at h
    unfold partsE at h
    by_cases hp : ¬ isLev f.ho ∨ f.lo < 0 ∨ f.hi < f.lo ∨ topV f.bits < f.hi
    · rw [if_pos hp] at h; exact absurd h (by decide)
    · rw [if_neg hp] at h
      refine ⟨bits_of hb, Classical.not_not.1 fun hn => hp (.inl hn), ?_, ?_, ?_, h⟩
      · exact Int.not_lt.1 fun hn => hp (.inr (.inl hn))
      · exact Int.not_lt.1 fun hn => hp (.inr (.inr (.inl hn)))
      · exact Int.not_lt.1 fun hn => hp (.inr (.inr (.inr hn)))
  · rw [if_pos hb] at h; exact absurd h hb
theorem bare_lev {f : FC} {wl : List Slt} (h : bareE (f.fea wl) = 0) : ∀ x ∈ wl, isLev x.a ∧ isLev x.z := by
  intro x hx
  obtain ⟨i, hi, rfl⟩ := List.getElem_of_mem hx
  obtain ⟨-, -, -, -, -, hw⟩ := bare_ok h
  have := (wheel_ok (l := wl) hw).2 i hi
  obtain ⟨-, -, ⟨h1, h2, -⟩, -⟩ := wh_ok hi this
  exact ⟨h1, h2⟩
theorem hit_lev {wl : List Slt} (h : ∀ x ∈ wl, isLev x.a ∧ isLev x.z) (i : Int) (hi : i < wl.length) : (0 ≤ (hitV wl i).a ∧ (hitV wl i).a ≤ 65535) ∧ 0 ≤ (hitV wl i).z ∧ (hitV wl i).z ≤ 65535 := by
  unfold hitV
  by_cases h0 : i < 0
  · rw [if_pos h0]; decide
  · rw [if_neg h0, getD_of (show i.toNat < wl.length by omega)]
    obtain ⟨a, b⟩ := h _ (List.getElem_mem (show i.toNat < wl.length by omega))
    exact ⟨a, b⟩
set_option maxHeartbeats 4000000 in
theorem pMiddle_any (f : FC) (wl : List Slt) (v : ByteArray) (w : World) (hw : FW w f wl) :
    Calls Tryz.prog 19 #[f.val, .string v] w fun e w' => e = .returned (.tuple #[.int .i64 (midV (f.fea wl) v), .int .i64 (midE (f.fea wl) v)]) ∧ Below w.heap.size w w' := by
  have HB1 := Lib.hid (fun w hw => pbare_any f wl w hw)
  have HS1 := Lib.hid (fun g cb p w hw eg hf => pslot_any f wl g cb p w hw eg hf)
  obtain ⟨q, hq0⟩ : ∃ q, bareE (f.fea wl) = q := ⟨_, rfl⟩
  have hE : midE (f.fea wl) v = if q ≠ 0 then q else if midI wl v < 0 then 6 else 0 := by unfold midE; rw [hq0]; rfl
  have hV : midV (f.fea wl) v = if midE (f.fea wl) v ≠ 0 then 0 else ((wl.getD (midI wl v).toNat slt0).a + (wl.getD (midI wl v).toNat slt0).z) / 2 := rfl
  have HW0 := Lib.hid (show q = 0 → ∀ x ∈ wl, isLev x.a ∧ isLev x.z from fun h => by rw [← hq0] at h; exact bare_lev h)
  rw [hq0] at HB1
  rw [hV, hE]
  clear hV hE hq0
  obtain ⟨at_, bits, co, fi, cu, ho, lo, hi, sn, A, n, c⟩ := f
  have HBa := Lib.hid (show ∀ w', FW w' ⟨at_, bits, co, fi, cu, ho, lo, hi, sn, A, n, c⟩ wl → Calls Tryz.prog 54 #[.agg #[.int .i64 at_, .int .i64 bits, .int .i64 co, .int .i64 fi, .int .i64 cu, .int .i64 ho, .int .i64 lo, .int .i64 hi, .bool sn, .slice A n c]] w' fun e w'' => e = .returned (.int .i64 q) ∧ Below w'.heap.size w' w'' from HB1.out)
  show Calls Tryz.prog 19 #[.agg #[.int .i64 at_, .int .i64 bits, .int .i64 co, .int .i64 fi, .int .i64 cu, .int .i64 ho, .int .i64 lo, .int .i64 hi, .bool sn, .slice A n c], .string v] w fun e w' => e = .returned (.tuple #[.int .i64 (if (if q ≠ 0 then q else if midI wl v < 0 then 6 else 0) ≠ 0 then 0 else ((wl.getD (midI wl v).toNat slt0).a + (wl.getD (midI wl v).toNat slt0).z) / 2), .int .i64 (if q ≠ 0 then q else if midI wl v < 0 then 6 else 0)]) ∧ Below w.heap.size w w'
  obtain ⟨W, hW⟩ : ∃ W, W = (w.alloc (.cells #[.int .i64 at_, .int .i64 bits, .int .i64 co, .int .i64 fi, .int .i64 cu, .int .i64 ho, .int .i64 lo, .int .i64 hi, .bool sn, .slice A n c] 24)).alloc (.cells #[.string v] 9) := ⟨_, rfl⟩
  obtain ⟨hB0, hK⟩ := fbox2 at_ bits co fi cu ho lo hi sn A n c (.string v) 9 w W hW
  have HK := Lib.hid hK
  have HW := Lib.hid hW
  have HB0 := Lib.hid hB0
  have hB := Below.refl W.heap.size W
  obtain ⟨c0, c1, c2, c3, c4, c5, c6, c7, c8, c9, cv⟩ := hK W hB
  clear hW hB0 hK
  have HL := Lib.hid (hw.below HB0.out)
  have hsz : w.heap.size + 1 < W.heap.size := by rw [HW.out]; simp
  have HSl := Lib.hid (show ∀ w', Below W.heap.size W w' → Calls Tryz.prog 56 #[.agg #[.int .i64 at_, .int .i64 bits, .int .i64 co, .int .i64 fi, .int .i64 cu, .int .i64 ho, .int .i64 lo, .int .i64 hi, .bool sn, .slice A n c], .func (.func 60) #[] #[.pointer (some ⟨w.heap.size + 1, 0, none⟩)]] w' fun e w'' => e = .returned (.tuple #[.agg #[.string (hitV wl (midI wl v)).s, .int .i64 (hitV wl (midI wl v)).a, .int .i64 (hitV wl (midI wl v)).z], .int .i64 (hitE (midI wl v))]) ∧ Below w'.heap.size w' w'' from fun w' hb' =>
    HS1.out 60 #[.pointer (some ⟨w.heap.size + 1, 0, none⟩)] (fun x => decide (x.s = v)) w' (HL.out.below hb') (enters_of Tryz.func60 (by kernel_rfl) rfl)
      (fun i h W' hW' => by
        obtain ⟨-, -, -, -, -, -, -, -, -, -, cv⟩ := HK.out W' (hb'.trans (hW'.mono hb'.size))
        exact pmdc_any _ v _ _ _ W' (Nat.lt_of_lt_of_le hsz (Nat.le_trans hb'.size hW'.size)) cv))
  clear HS1 HB1 hw hsz
  by_cases hq : q = 0
  · subst hq
    rw [if_neg (show ¬ ((0 : Int) ≠ 0) from fun h => h rfl)]
    have hres : (if (if midI wl v < 0 then (6 : Int) else 0) ≠ 0 then (0 : Int) else ((wl.getD (midI wl v).toNat slt0).a + (wl.getD (midI wl v).toNat slt0).z) / 2) = ((hitV wl (midI wl v)).a + (hitV wl (midI wl v)).z) / 2 ∧ (if midI wl v < 0 then (6 : Int) else 0) = hitE (midI wl v) := by
      unfold hitV hitE
      by_cases h : midI wl v < 0
      · simp [h, slt0]
      · simp [h]
    rw [hres.1, hres.2]
    have hlv := hit_lev (HW0.out rfl) (midI wl v) (idxOf_lt wl)
    clear hres
    generalize (hitV wl (midI wl v)).s = hs at *
    generalize (hitV wl (midI wl v)).a = ha at *
    generalize (hitV wl (midI wl v)).z = hz at *
    generalize hitE (midI wl v) = he at *
    have w1 : IntKind.i64.wrap (ha + hz) = ha + hz := IntWalk.i64_in _ (by omega)
    have hB9 := Lib.hid hlv
    clear hlv
    go_enter Tryz.func19, Tryz.ntmps19
    go_wp2_with fail
    rw [← HW.out]
    refine (HBa.out _ (HL.out.below hB)).mono ?_
    rintro e wk ⟨rfl, hb⟩
    replace hB := hB.trans (hb.mono hB.size)
    clear hb
    obtain ⟨c0, c1, c2, c3, c4, c5, c6, c7, c8, c9, cv⟩ := HK.out _ hB
    go_wp2_with fail
    refine (HSl.out _ hB).mono ?_
    rintro e wk ⟨rfl, hb⟩
    replace hB := hB.trans (hb.mono hB.size)
    have hlv := hB9.out
    go_wp2_with fail
    go_ret2
    exact ⟨rfl, HB0.out.trans ((hB.alloc hB.size _).mono HB0.out.size)⟩
  · rw [if_pos hq, if_pos hq]
    have g1 : (q == 0) = false := by simpa using hq
    have g2 : (q != 0) = true := by simpa using hq
    clear HSl hq HW0
    go_enter Tryz.func19, Tryz.ntmps19
    go_wp2_with fail
    rw [← HW.out]
    refine (HBa.out _ (HL.out.below hB)).mono ?_
    rintro e wk ⟨rfl, hb⟩
    replace hB := hB.trans (hb.mono hB.size)
    clear hb
    obtain ⟨c0, c1, c2, c3, c4, c5, c6, c7, c8, c9, cv⟩ := HK.out _ hB
    go_wp2_with fail
    go_ret2
    exact ⟨rfl, HB0.out.trans (hB.mono HB0.out.size)⟩
end Go.Proofs.YtpinmgoeapakdaaGreatDoor
