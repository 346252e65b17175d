/- The walk of the law RangesWrites: it returns true, and nothing that was there has turned. -/
import Derived.Test.YteaofninjbhiaaaDoorAwake
namespace Go.Proofs.YteaofninjbhiaaaDoor
open Go.RowKit

set_option maxRecDepth 100000 in
set_option maxHeartbeats 4000000 in
theorem writes_walk (A : Option Addr) (n c : Nat) (l : RL) (w : World) (hl : 300 < n ∨ Rs w A n l) (hn : n ≤ 9223372036854775807) (hT : Tab w) : Calls Tryd.prog 3 #[.slice A n c] w fun e w' => e = .returned (.bool true) ∧ Below w.heap.size w w' := by
  by_cases h : 300 < n
  · have h' : (300 : Int) < (n : Int) := by omega
    clear hl
    go_enter Tryd.func3, Tryd.ntmps3
    go_wp2_with fail
    refine (awake_any _ hT).mono ?_
    rintro e w1 ⟨rfl, hb1⟩
    go_wp2_with fail
    go_ret
    exact ⟨rfl, hb1⟩
  · have hl' : Rs w A n l := by rcases hl with h1 | h1; exact absurd h1 h; exact h1
    clear hl
    have h' : ¬ (300 : Int) < (n : Int) := by omega
    generalize hF : formatL l = F at *
    have HF := Lib.hid hF
    clear hF
    obtain ⟨S, z⟩ := F
    have heq : ((⟨S.toArray⟩ : ByteArray).toList == (⟨S.toArray⟩ : ByteArray).toList) = true := by simp
    go_enter Tryd.func3, Tryd.ntmps3
    go_wp2_with fail
    refine (format_any _ _ c l _ hl' (by omega) hT).mono ?_
    rw [HF.out]
    rintro e w1 ⟨rfl, hb1⟩
    go_wp2_with fail
    refine (own_any _ _ c l _ (hl'.below hb1) (by omega)).mono ?_
    rintro e w2 ⟨r, rfl, A2, c2, rfl, ho2, hb2⟩
    have hb02 := hb1.trans (hb2.mono hb1.size)
    go_wp2_with fail
    refine (refFormat_any _ _ c2 l _ (OutR.rs ho2 rfl) (by have := hl'.1; omega)).mono ?_
    rw [HF.out]
    rintro e w3 ⟨rfl, hb3⟩
    have hb03 := hb02.trans (hb3.mono hb02.size)
    go_wp2_with fail
    refine (awake_any _ (hT.below hb03)).mono ?_
    rintro e w4 ⟨rfl, hb4⟩
    have hb04 := hb03.trans (hb4.mono hb03.size)
    go_wp2_with fail
    go_ret
    exact ⟨by simp, hb04⟩
end Go.Proofs.YteaofninjbhiaaaDoor
