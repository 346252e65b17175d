/- The walk of the law RangesReturns: it returns true, and nothing that was there has turned. -/
import Derived.Test.YteaofninjbhiaaaDoorLawMakes
import Derived.Test.YteaofninjbhiaaaDoorPlainR
namespace Go.Proofs.YteaofninjbhiaaaDoor
open Go.RowKit

set_option maxRecDepth 100000 in
set_option maxHeartbeats 4000000 in
theorem returns_walk (w : World) (A : Option Addr) (n c : Nat) (l : RL) (hl : Rs w A n l) (hn : n ≤ maxLen) (hT : Tab w) :
    Calls Tryd.prog 4 #[.slice A n c] w fun e w' => e = .returned (.bool true) ∧ Below w.heap.size w w' := by
  unfold maxLen at hn
  by_cases h : 60 < n
  · have h' : (60 : Int) < (n : Int) := by omega
    go_enter Tryd.func4, Tryd.ntmps4
    go_wp2_with fail
    refine (awake_any _ hT).mono ?_
    rintro e w1 ⟨rfl, hb1⟩
    go_wp2_with fail
    go_ret
    exact ⟨rfl, hb1⟩
  · have h' : ¬ (60 : Int) < (n : Int) := by omega
    have hlen : l.length ≤ 60 := by have := hl.1; omega
    by_cases h0 : chk l = 0
    · have HP := Lib.hid (parse_fmt h0 hlen)
      have HF := Lib.hid (formatL_ok h0)
      have H0 := Lib.hid h0
      clear h0
      generalize fmtL l = S at *
      go_enter Tryd.func4, Tryd.ntmps4
      go_wp2_with fail
      refine (check_any _ _ c l _ hl (by omega)).mono ?_
      rw [H0.out]
      rintro e w1 ⟨rfl, hB⟩
      replace hl := hl.below hB
      replace hT := hT.below hB
      go_wp2_with fail
      refine (format_any _ _ c l _ hl (by omega) hT).mono ?_
      rw [HF.out]
      rintro e w2 ⟨rfl, hb⟩
      replace hl := hl.below hb; replace hT := hT.below hb; replace hB := hB.trans (hb.mono hB.size); clear hb
      go_wp2_with fail
      refine (parse_any ⟨S.toArray⟩ _).mono ?_
      rw [show parseL (⟨S.toArray⟩ : ByteArray).data.toList = (l, 0, 0) from HP.out]
      rintro e w3 ⟨r, rfl, A3, c3, rfl, ho, hb⟩
      have hR := OutR.rs ho rfl
      clear ho
      replace hl := hl.below hb; replace hT := hT.below hb; replace hB := hB.trans (hb.mono hB.size); clear hb
      go_wp2_with fail
      refine (equalR_same _ _ _ l _ _ _ _ hR hl (by omega)).mono ?_
      rintro e w4 ⟨rfl, hb⟩
      replace hl := hl.below hb; replace hT := hT.below hb; replace hB := hB.trans (hb.mono hB.size); clear hb
      go_wp2_with fail
      refine (awake_any _ hT).mono ?_
      rintro e w5 ⟨rfl, hb⟩
      replace hB := hB.trans (hb.mono hB.size); clear hb
      go_wp2_with fail
      go_ret
      exact ⟨rfl, hB⟩
    · have HF := Lib.hid (formatL_bad h0)
      generalize hx : chk l = x at *
      have Hx := Lib.hid hx
      clear hx
      have h0' : (x != 0) = true := by simpa using h0
      clear h0
      go_enter Tryd.func4, Tryd.ntmps4
      go_wp2_with fail
      refine (check_any _ _ c l _ hl (by omega)).mono ?_
      rw [Hx.out]
      rintro e w1 ⟨rfl, hB⟩
      replace hl := hl.below hB
      replace hT := hT.below hB
      go_wp2_with fail
      refine (format_any _ _ c l _ hl (by omega) hT).mono ?_
      rw [HF.out]
      rintro e w2 ⟨rfl, hb⟩
      replace hl := hl.below hb; replace hT := hT.below hb; replace hB := hB.trans (hb.mono hB.size); clear hb
      go_wp2_with fail
      refine (check_any _ _ c l _ hl (by omega)).mono ?_
      rw [Hx.out]
      rintro e w3 ⟨rfl, hb⟩
      replace hl := hl.below hb; replace hT := hT.below hb; replace hB := hB.trans (hb.mono hB.size); clear hb
      go_wp2_with fail
      refine (awake_any _ hT).mono ?_
      rintro e w4 ⟨rfl, hb⟩
      replace hB := hB.trans (hb.mono hB.size); clear hb
      go_wp2_with fail
      go_ret
      exact ⟨by simp, hB⟩
end Go.Proofs.YteaofninjbhiaaaDoor
