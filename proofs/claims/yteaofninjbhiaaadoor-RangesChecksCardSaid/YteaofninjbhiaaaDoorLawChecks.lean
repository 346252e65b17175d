/- The walk of the law RangesChecks: it returns true, and nothing that was there has turned. -/
import Derived.Test.YteaofninjbhiaaaDoorLawMakes
import Derived.Test.YteaofninjbhiaaaDoorHolds
namespace Go.Proofs.YteaofninjbhiaaaDoor
open Go.RowKit

theorem listL_length {l : RL} (hl : l.length ≤ 300) : (listL l).1.length ≤ 299700 := by
  unfold listL
  split
  · rename_i h
    have := listed_length (chk_ok h)
    dsimp only; omega
  · simp
theorem equalI_eq (A : Option Addr) (n c : Nat) (l : List Int) (B : Option Addr) (n' c' : Nat) (w : World) (hl : Is w A n l) (hm : Is w B n' l) (hn : l.length ≤ 1000000) :
    Calls Tryd.prog 32 #[.slice A n c, .slice B n' c'] w fun e w' => e = .returned (.bool true) ∧ Below w.heap.size w w' :=
  (equalI_any A n c l B n' c' l w hl hm (by have := hl.1; omega) (by have := hm.1; omega)).mono fun e w' ⟨he, hb⟩ => ⟨by rw [he, decide_eq_true rfl], hb⟩
set_option maxRecDepth 100000 in
set_option maxHeartbeats 8000000 in
theorem checks_walk (w : World) (A : Option Addr) (n c : Nat) (l : RL) (hl : Rs w A n l) (hn : n ≤ maxLen) (ch : Int) (_hch : (Lit.int .i64 ch).wf = true) (hT : Tab w) :
    Calls Tryd.prog 7 #[.slice A n c, .int .i64 ch] w fun e w' => e = .returned (.bool true) ∧ Below w.heap.size w w' := by
  unfold maxLen at hn

  by_cases h : 300 < n
  · have h' : (300 : Int) < (n : Int) := by omega
    go_enter Tryd.func7, Tryd.ntmps7
    go_wp2_with fail
    refine (awake_any _ hT).mono ?_
    rintro e w1 ⟨rfl, hb1⟩
    go_wp2_with fail
    go_ret
    exact ⟨rfl, hb1⟩
  · have h' : ¬ (300 : Int) < (n : Int) := by omega
    have hlen : l.length ≤ 300 := by have := hl.1; omega
    have hLL := listL_length hlen
    generalize hF : holdsL l ch = F at *
    have HF := Lib.hid hF
    clear hF
    obtain ⟨b, z⟩ := F
    generalize hG : countL l = G at *
    have HG := Lib.hid hG
    clear hG
    obtain ⟨k, y⟩ := G
    generalize hH : listL l = H at *
    have HH := Lib.hid hH
    clear hH
    obtain ⟨L, x⟩ := H
    dsimp only at hLL
    generalize hC : chk l = C at *
    have HC := Lib.hid hC
    clear hC
    go_enter Tryd.func7, Tryd.ntmps7
    go_wp2_with fail
    refine (holds_any _ _ c l ch _ hl (by omega)).mono ?_
    rw [HF.out]
    rintro e w1 ⟨rfl, hB⟩
    replace hl := hl.below hB
    replace hT := hT.below hB
    go_wp2_with fail
    refine (own_any _ _ c l _ hl (by omega)).mono ?_
    rintro e w2 ⟨r, rfl, A2, c2, rfl, ho, hb⟩
    have hO := OutR.rs ho rfl
    clear ho
    replace hl := hl.below hb; replace hT := hT.below hb; replace hB := hB.trans (hb.mono hB.size); clear hb
    go_wp2_with fail
    refine (refHolds_any _ _ c2 l ch _ hO (by omega)).mono ?_
    rw [HF.out]
    rintro e w3 ⟨rfl, hb⟩
    clear hO
    replace hl := hl.below hb; replace hT := hT.below hb; replace hB := hB.trans (hb.mono hB.size); clear hb
    go_wp2_with fail
    refine (count_any _ _ c l _ hl (by omega)).mono ?_
    rw [HG.out]
    rintro e w4 ⟨rfl, hb⟩
    replace hl := hl.below hb; replace hT := hT.below hb; replace hB := hB.trans (hb.mono hB.size); clear hb
    go_wp2_with fail
    refine (own_any _ _ c l _ hl (by omega)).mono ?_
    rintro e w5 ⟨r, rfl, A5, c5, rfl, ho, hb⟩
    have hO := OutR.rs ho rfl
    clear ho
    replace hl := hl.below hb; replace hT := hT.below hb; replace hB := hB.trans (hb.mono hB.size); clear hb
    go_wp2_with fail
    refine (refCount_any _ _ c5 l _ hO (by omega)).mono ?_
    rw [HG.out]
    rintro e w6 ⟨rfl, hb⟩
    clear hO
    replace hl := hl.below hb; replace hT := hT.below hb; replace hB := hB.trans (hb.mono hB.size); clear hb
    go_wp2_with fail
    refine (list_any _ _ c l _ hl (by omega)).mono ?_
    rw [HH.out]
    rintro e w7 ⟨r, rfl, A7, c7, rfl, ho, hb⟩
    have hP : Is _ _ _ L := ⟨rfl, Sl.of_own ho⟩
    clear ho
    replace hl := hl.below hb; replace hT := hT.below hb; replace hB := hB.trans (hb.mono hB.size); clear hb
    go_wp2_with fail
    refine (own_any _ _ c l _ hl (by omega)).mono ?_
    rintro e w8 ⟨r, rfl, A8, c8, rfl, ho, hb⟩
    have hO := OutR.rs ho rfl
    clear ho
    replace hl := hl.below hb; replace hT := hT.below hb; replace hP := hP.below hb; replace hB := hB.trans (hb.mono hB.size); clear hb
    go_wp2_with fail
    refine (refList_any _ _ c8 l _ hO (by omega)).mono ?_
    rw [HH.out]
    rintro e w9 ⟨r, rfl, A9, c9, rfl, ho, hb⟩
    have hQ : Is _ _ _ L := ⟨rfl, Sl.of_own ho⟩
    clear ho hO
    replace hl := hl.below hb; replace hT := hT.below hb; replace hP := hP.below hb; replace hB := hB.trans (hb.mono hB.size); clear hb
    go_wp2_with fail
    refine (awake_any _ hT).mono ?_
    rintro e w10 ⟨rfl, hb⟩
    replace hl := hl.below hb; replace hP := hP.below hb; replace hQ := hQ.below hb; replace hB := hB.trans (hb.mono hB.size); clear hb
    go_wp2_with fail
    refine (check_any _ _ c l _ hl (by omega)).mono ?_
    rw [HC.out]
    rintro e w11 ⟨rfl, hb⟩
    replace hl := hl.below hb; replace hP := hP.below hb; replace hQ := hQ.below hb; replace hB := hB.trans (hb.mono hB.size); clear hb
    go_wp2_with fail
    refine (own_any _ _ c l _ hl (by omega)).mono ?_
    rintro e w12 ⟨r, rfl, A12, c12, rfl, ho, hb⟩
    have hO := OutR.rs ho rfl
    clear ho
    replace hl := hl.below hb; replace hP := hP.below hb; replace hQ := hQ.below hb; replace hB := hB.trans (hb.mono hB.size); clear hb
    go_wp2_with fail
    refine (refCheck_any _ _ c12 l _ hO (by omega)).mono ?_
    rw [HC.out]
    rintro e w13 ⟨rfl, hb⟩
    clear hO
    replace hl := hl.below hb; replace hP := hP.below hb; replace hQ := hQ.below hb; replace hB := hB.trans (hb.mono hB.size); clear hb
    go_wp2_with fail
    refine (equalI_eq _ _ _ L _ _ _ _ hP hQ (by omega)).mono ?_
    rintro e w14 ⟨rfl, hb⟩
    replace hB := hB.trans (hb.mono hB.size); clear hb
    go_wp2_with fail
    go_ret
    exact ⟨by simp, hB⟩
end Go.Proofs.YteaofninjbhiaaaDoor
