/- The walk of the law RangesCombines: it returns true, and nothing that was there has turned. -/
import Derived.Test.YteaofninjbhiaaaDoorLawMakes
namespace Go.Proofs.YteaofninjbhiaaaDoor
open Go.RowKit

theorem combL_length (F : Bool → Bool → Bool) (a b : RL) : (combL F a b).1.length ≤ 1000 := by
  unfold combL
  split
  · split
    · dsimp only; exact Nat.le_trans (m := 999) (rangesOf_length _) (by omega)
    · simp
  · simp
set_option maxRecDepth 100000 in
set_option maxHeartbeats 8000000 in
theorem combines_walk (w : World) (A : Option Addr) (n c : Nat) (a : RL) (ha : Rs w A n a) (hn : n ≤ maxLen) (B : Option Addr) (m d : Nat) (b : RL) (hb : Rs w B m b) (hm : m ≤ maxLen) (hT : Tab w) :
    Calls Tryd.prog 5 #[.slice A n c, .slice B m d] w fun e w' => e = .returned (.bool true) ∧ Below w.heap.size w w' := by
  unfold maxLen at hn hm
  by_cases h : 60 < n
  · have h' : (60 : Int) < (n : Int) := by omega
    go_enter Tryd.func5, Tryd.ntmps5
    go_wp2_with fail
    refine (awake_any _ hT).mono ?_
    rintro e w1 ⟨rfl, hb1⟩
    go_wp2_with fail
    go_ret
    exact ⟨rfl, hb1⟩
  · have h' : ¬ (60 : Int) < (n : Int) := by omega
    by_cases g : 60 < m
    · have g' : (60 : Int) < (m : Int) := by omega
      go_enter Tryd.func5, Tryd.ntmps5
      go_wp2_with fail
      refine (awake_any _ hT).mono ?_
      rintro e w1 ⟨rfl, hb1⟩
      go_wp2_with fail
      go_ret
      exact ⟨rfl, hb1⟩
    · have g' : ¬ (60 : Int) < (m : Int) := by omega
      have hK0 := combL_length or a b
      generalize hF0 : combL or a b = F0 at *
      have HF0 := Lib.hid hF0
      clear hF0
      obtain ⟨K0, z0⟩ := F0
      dsimp only at hK0
      have hK1 := combL_length (fun x y => x && !y) a b
      generalize hF1 : combL (fun x y => x && !y) a b = F1 at *
      have HF1 := Lib.hid hF1
      clear hF1
      obtain ⟨K1, z1⟩ := F1
      dsimp only at hK1
      have hK2 := combL_length and a b
      generalize hF2 : combL and a b = F2 at *
      have HF2 := Lib.hid hF2
      clear hF2
      obtain ⟨K2, z2⟩ := F2
      dsimp only at hK2
      go_enter Tryd.func5, Tryd.ntmps5
      go_wp2_with fail
      refine (unionP_any _ _ c a _ _ d b _ ha hb (by omega) (by omega)).mono ?_
      rw [HF0.out]
      rintro e w1 ⟨r, rfl, A1, c1, rfl, ho1, hb1⟩
      have P0 := OutR.rs ho1 rfl
      clear ho1
      have hB1 := hb1
      go_wp2_with fail
      refine (own_any _ _ c a _ (ha.below hB1) (by omega)).mono ?_
      rintro e w2 ⟨r, rfl, A2, c2, rfl, ho2, hb2⟩
      have X0 := OutR.rs ho2 rfl
      clear ho2
      have P02 := P0.below hb2
      clear P0
      have hB2 := hB1.trans (hb2.mono hB1.size)
      clear hB1
      clear hb2
      go_wp2_with fail
      refine (own_any _ _ d b _ (hb.below hB2) (by omega)).mono ?_
      rintro e w3 ⟨r, rfl, A3, c3, rfl, ho3, hb3⟩
      have Y0 := OutR.rs ho3 rfl
      clear ho3
      have P03 := P02.below hb3
      clear P02
      have X03 := X0.below hb3
      clear X0
      have hB3 := hB2.trans (hb3.mono hB2.size)
      clear hB2
      clear hb3
      go_wp2_with fail
      refine (refUnion_any _ _ c2 a _ _ c3 b _ X03 Y0 (by have := ha.1; omega) (by have := hb.1; omega)).mono ?_
      rw [HF0.out]
      rintro e w4 ⟨r, rfl, A4, c4, rfl, ho4, hb4⟩
      have Q0 := OutR.rs ho4 rfl
      clear ho4 X03 Y0
      have P04 := P03.below hb4
      clear P03
      have hB4 := hB3.trans (hb4.mono hB3.size)
      clear hB3
      clear hb4
      go_wp2_with fail
      refine (minusP_any _ _ c a _ _ d b _ (ha.below hB4) (hb.below hB4) (by omega) (by omega)).mono ?_
      rw [HF1.out]
      rintro e w5 ⟨r, rfl, A5, c5, rfl, ho5, hb5⟩
      have P1 := OutR.rs ho5 rfl
      clear ho5
      have P05 := P04.below hb5
      clear P04
      have Q05 := Q0.below hb5
      clear Q0
      have hB5 := hB4.trans (hb5.mono hB4.size)
      clear hB4
      clear hb5
      go_wp2_with fail
      refine (own_any _ _ c a _ (ha.below hB5) (by omega)).mono ?_
      rintro e w6 ⟨r, rfl, A6, c6, rfl, ho6, hb6⟩
      have X1 := OutR.rs ho6 rfl
      clear ho6
      have P06 := P05.below hb6
      clear P05
      have Q06 := Q05.below hb6
      clear Q05
      have P16 := P1.below hb6
      clear P1
      have hB6 := hB5.trans (hb6.mono hB5.size)
      clear hB5
      clear hb6
      go_wp2_with fail
      refine (own_any _ _ d b _ (hb.below hB6) (by omega)).mono ?_
      rintro e w7 ⟨r, rfl, A7, c7, rfl, ho7, hb7⟩
      have Y1 := OutR.rs ho7 rfl
      clear ho7
      have P07 := P06.below hb7
      clear P06
      have Q07 := Q06.below hb7
      clear Q06
      have P17 := P16.below hb7
      clear P16
      have X17 := X1.below hb7
      clear X1
      have hB7 := hB6.trans (hb7.mono hB6.size)
      clear hB6
      clear hb7
      go_wp2_with fail
      refine (refMinus_any _ _ c6 a _ _ c7 b _ X17 Y1 (by have := ha.1; omega) (by have := hb.1; omega)).mono ?_
      rw [HF1.out]
      rintro e w8 ⟨r, rfl, A8, c8, rfl, ho8, hb8⟩
      have Q1 := OutR.rs ho8 rfl
      clear ho8 X17 Y1
      have P08 := P07.below hb8
      clear P07
      have Q08 := Q07.below hb8
      clear Q07
      have P18 := P17.below hb8
      clear P17
      have hB8 := hB7.trans (hb8.mono hB7.size)
      clear hB7
      clear hb8
      go_wp2_with fail
      refine (commonP_any _ _ c a _ _ d b _ (ha.below hB8) (hb.below hB8) (by omega) (by omega)).mono ?_
      rw [HF2.out]
      rintro e w9 ⟨r, rfl, A9, c9, rfl, ho9, hb9⟩
      have P2 := OutR.rs ho9 rfl
      clear ho9
      have P09 := P08.below hb9
      clear P08
      have Q09 := Q08.below hb9
      clear Q08
      have P19 := P18.below hb9
      clear P18
      have Q19 := Q1.below hb9
      clear Q1
      have hB9 := hB8.trans (hb9.mono hB8.size)
      clear hB8
      clear hb9
      go_wp2_with fail
      refine (own_any _ _ c a _ (ha.below hB9) (by omega)).mono ?_
      rintro e w10 ⟨r, rfl, A10, c10, rfl, ho10, hb10⟩
      have X2 := OutR.rs ho10 rfl
      clear ho10
      have P010 := P09.below hb10
      clear P09
      have Q010 := Q09.below hb10
      clear Q09
      have P110 := P19.below hb10
      clear P19
      have Q110 := Q19.below hb10
      clear Q19
      have P210 := P2.below hb10
      clear P2
      have hB10 := hB9.trans (hb10.mono hB9.size)
      clear hB9
      clear hb10
      go_wp2_with fail
      refine (own_any _ _ d b _ (hb.below hB10) (by omega)).mono ?_
      rintro e w11 ⟨r, rfl, A11, c11, rfl, ho11, hb11⟩
      have Y2 := OutR.rs ho11 rfl
      clear ho11
      have P011 := P010.below hb11
      clear P010
      have Q011 := Q010.below hb11
      clear Q010
      have P111 := P110.below hb11
      clear P110
      have Q111 := Q110.below hb11
      clear Q110
      have P211 := P210.below hb11
      clear P210
      have X211 := X2.below hb11
      clear X2
      have hB11 := hB10.trans (hb11.mono hB10.size)
      clear hB10
      clear hb11
      go_wp2_with fail
      refine (refCommon_any _ _ c10 a _ _ c11 b _ X211 Y2 (by have := ha.1; omega) (by have := hb.1; omega)).mono ?_
      rw [HF2.out]
      rintro e w12 ⟨r, rfl, A12, c12, rfl, ho12, hb12⟩
      have Q2 := OutR.rs ho12 rfl
      clear ho12 X211 Y2
      have P012 := P011.below hb12
      clear P011
      have Q012 := Q011.below hb12
      clear Q011
      have P112 := P111.below hb12
      clear P111
      have Q112 := Q111.below hb12
      clear Q111
      have P212 := P211.below hb12
      clear P211
      have hB12 := hB11.trans (hb12.mono hB11.size)
      clear hB11
      clear hb12
      go_wp2_with fail
      refine (awake_any _ (hT.below hB12)).mono ?_
      rintro e w13 ⟨rfl, hb13⟩
      have P013 := P012.below hb13
      clear P012
      have Q013 := Q012.below hb13
      clear Q012
      have P113 := P112.below hb13
      clear P112
      have Q113 := Q112.below hb13
      clear Q112
      have P213 := P212.below hb13
      clear P212
      have Q213 := Q2.below hb13
      clear Q2
      have hB13 := hB12.trans (hb13.mono hB12.size)
      clear hB12
      clear hb13
      go_wp2_with fail
      refine (same_eq _ _ c1 K0 _ _ c4 _ P013 Q013 hK0).mono ?_
      rintro e w14 ⟨rfl, hb14⟩
      clear P013 Q013
      have P114 := P113.below hb14
      clear P113
      have Q114 := Q113.below hb14
      clear Q113
      have P214 := P213.below hb14
      clear P213
      have Q214 := Q213.below hb14
      clear Q213
      have hB14 := hB13.trans (hb14.mono hB13.size)
      clear hB13
      clear hb14
      go_wp2_with fail
      refine (same_eq _ _ c5 K1 _ _ c8 _ P114 Q114 hK1).mono ?_
      rintro e w15 ⟨rfl, hb15⟩
      clear P114 Q114
      have P215 := P214.below hb15
      clear P214
      have Q215 := Q214.below hb15
      clear Q214
      have hB15 := hB14.trans (hb15.mono hB14.size)
      clear hB14
      clear hb15
      go_wp2_with fail
      refine (same_eq _ _ c9 K2 _ _ c12 _ P215 Q215 hK2).mono ?_
      rintro e w16 ⟨rfl, hb16⟩
      clear P215 Q215
      have hB16 := hB15.trans (hb16.mono hB15.size)
      clear hB15
      clear hb16
      go_wp2_with fail
      go_ret
      exact ⟨by simp, hB16⟩
end Go.Proofs.YteaofninjbhiaaaDoor
