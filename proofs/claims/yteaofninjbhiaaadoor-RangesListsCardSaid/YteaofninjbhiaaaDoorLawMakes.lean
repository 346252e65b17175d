/- The walk of the law RangesMakes: it returns true, and nothing that was there has turned. -/
import Derived.Test.YteaofninjbhiaaaDoorAwake
namespace Go.Proofs.YteaofninjbhiaaaDoor
open Go.RowKit

theorem same_eq (A : Option Addr) (n c : Nat) (l : RL) (B : Option Addr) (n' c' : Nat) (w : World) (hl : Rs w A n l) (hm : Rs w B n' l) (hn : l.length ≤ 1000) :
    Calls Tryd.prog 23 #[.slice A n c, .slice B n' c'] w fun e w' => e = .returned (.bool true) ∧ Below w.heap.size w w' :=
  (same_any A n c l B n' c' l w hl hm (by have := hl.1; omega) (by have := hm.1; omega)).mono fun e w' ⟨he, hb⟩ => ⟨by rw [he, decide_eq_true rfl], hb⟩
set_option maxRecDepth 100000 in
set_option maxHeartbeats 4000000 in
theorem makes_walk (w : World) (A : Option Addr) (n c : Nat) (l : RL) (hl : Rs w A n l) (hn : n ≤ maxLen) (B : Option Addr) (m d : Nat) (ch : List Int) (hc : Is w B m ch) (hm : m ≤ maxLen) (hT : Tab w) :
    Calls Tryd.prog 8 #[.slice A n c, .slice B m d] w fun e w' => e = .returned (.bool true) ∧ Below w.heap.size w w' := by
  unfold maxLen at hn hm
  by_cases h : 600 < n
  · have h' : (600 : Int) < (n : Int) := by omega
    go_enter Tryd.func8, Tryd.ntmps8
    go_wp2_with fail
    refine (awake_any _ hT).mono ?_
    rintro e w1 ⟨rfl, hb1⟩
    go_wp2_with fail
    go_ret
    exact ⟨rfl, hb1⟩
  · have h' : ¬ (600 : Int) < (n : Int) := by omega
    by_cases g : 9000 < m
    · have g' : (9000 : Int) < (m : Int) := by omega
      go_enter Tryd.func8, Tryd.ntmps8
      go_wp2_with fail
      refine (awake_any _ hT).mono ?_
      rintro e w1 ⟨rfl, hb1⟩
      go_wp2_with fail
      go_ret
      exact ⟨rfl, hb1⟩
    · have g' : ¬ (9000 : Int) < (m : Int) := by omega
      generalize hF : makeL l = F at *
      have HF := Lib.hid hF
      clear hF
      obtain ⟨K, z⟩ := F
      generalize hG : ofL ch = G at *
      have HG := Lib.hid hG
      clear hG
      obtain ⟨M, y⟩ := G
      have hK : K.length ≤ 1000 := by
        have : K = (makeL l).1 := by rw [HF.out]
        rw [this]; unfold makeL; split
        · simp
        · split
          · dsimp only; exact Nat.le_trans (m := 999) (rangesOf_length _) (by omega)
          · simp
      have hM : M.length ≤ 1000 := by
        have : M = (ofL ch).1 := by rw [HG.out]
        rw [this]; unfold ofL; split
        · simp
        · split
          · dsimp only; exact Nat.le_trans (m := 999) (rangesOf_length _) (by omega)
          · simp
      go_enter Tryd.func8, Tryd.ntmps8
      go_wp2_with fail
      refine (make_any _ _ c l _ hl (by omega)).mono ?_
      rw [HF.out]
      rintro e w1 ⟨r, rfl, A1, c1, rfl, ho1, hb1⟩
      have hR1 := OutR.rs ho1 rfl
      clear ho1
      go_wp2_with fail
      refine (own_any _ _ c l _ (hl.below hb1) (by omega)).mono ?_
      rintro e w2 ⟨r, rfl, A2, c2, rfl, ho2, hb2⟩
      have hR2 := OutR.rs ho2 rfl
      have hR1b := hR1.below hb2
      have hb02 := hb1.trans (hb2.mono hb1.size)
      clear hR1 ho2 hb1 hb2
      go_wp2_with fail
      refine (refMake_any _ _ c2 l _ hR2 (by have := hl.1; omega)).mono ?_
      rw [HF.out]
      rintro e w3 ⟨r, rfl, A3, c3, rfl, ho3, hb3⟩
      have hR3 := OutR.rs ho3 rfl
      have hR1c := hR1b.below hb3
      have hb03 := hb02.trans (hb3.mono hb02.size)
      clear hR1b hR2 ho3 hb02 hb3
      go_wp2_with fail
      refine (of_any _ _ d ch _ (hc.below hb03) (by omega)).mono ?_
      rw [HG.out]
      rintro e w4 ⟨r, rfl, A4, c4, rfl, ho4, hb4⟩
      have hR4 := OutR.rs ho4 rfl
      have hR1d := hR1c.below hb4
      have hR3d := hR3.below hb4
      have hb04 := hb03.trans (hb4.mono hb03.size)
      clear hR1c hR3 ho4 hb03 hb4
      go_wp2_with fail
      refine (refOf_any _ _ d ch _ (hc.below hb04) (by omega)).mono ?_
      rw [HG.out]
      rintro e w5 ⟨r, rfl, A5, c5, rfl, ho5, hb5⟩
      have hR5 := OutR.rs ho5 rfl
      have hR1e := hR1d.below hb5
      have hR3e := hR3d.below hb5
      have hR4e := hR4.below hb5
      have hb05 := hb04.trans (hb5.mono hb04.size)
      clear hR1d hR3d hR4 ho5 hb04 hb5
      go_wp2_with fail
      refine (awake_any _ (hT.below hb05)).mono ?_
      rintro e w6 ⟨rfl, hb6⟩
      have hR1f := hR1e.below hb6
      have hR3f := hR3e.below hb6
      have hR4f := hR4e.below hb6
      have hR5f := hR5.below hb6
      have hb06 := hb05.trans (hb6.mono hb05.size)
      clear hR1e hR3e hR4e hR5 hb05 hb6
      go_wp2_with fail
      refine (same_eq _ _ c1 K _ _ c3 _ hR1f hR3f hK).mono ?_
      rintro e w7 ⟨rfl, hb7⟩
      have hR4g := hR4f.below hb7
      have hR5g := hR5f.below hb7
      have hb07 := hb06.trans (hb7.mono hb06.size)
      clear hR1f hR3f hR4f hR5f hb06 hb7
      go_wp2_with fail
      refine (same_eq _ _ c4 M _ _ c5 _ hR4g hR5g hM).mono ?_
      rintro e w8 ⟨rfl, hb8⟩
      have hb08 := hb07.trans (hb8.mono hb07.size)
      go_wp2_with fail
      go_ret
      exact ⟨by simp, hb08⟩
end Go.Proofs.YteaofninjbhiaaaDoor
