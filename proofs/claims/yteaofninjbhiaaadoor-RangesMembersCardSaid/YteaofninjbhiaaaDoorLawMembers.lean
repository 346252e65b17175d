/- The walk of the law RangesMembers: it returns true, and nothing that was there has turned. -/
import Derived.Test.YteaofninjbhiaaaDoorLawCombines
import Derived.Test.YteaofninjbhiaaaDoorHolds
namespace Go.Proofs.YteaofninjbhiaaaDoor
open Go.RowKit

theorem comb_in (F : Bool → Bool → Bool) {a b : RL} (ha : chk a = 0) (hb : chk b = 0) (h0 : F false false = false) {c : Int} (h1 : 1 ≤ c) (h2 : c ≤ 999) :
    ∃ U, combL F a b = (U, 0) ∧ chk U = 0 ∧ inB U c = F (inB a c) (inB b c) ∧ U.length ≤ 1000 := by
  have ha0 := inB_zero (chk_ok ha)
  have hb0 := inB_zero (chk_ok hb)
  have hm : F (inB a ((0 : Nat) : Int)) (inB b ((0 : Nat) : Int)) = false := by rw [ha0, hb0, h0]
  refine ⟨_, combL_ok (F := F) ha hb, rangesOf_chk (m := fun c => F (inB a c) (inB b c)) hm, ?_, Nat.le_trans (m := 999) (rangesOf_length _) (by omega)⟩
  obtain ⟨k, rfl⟩ : ∃ k : Nat, c = k := ⟨c.toNat, by omega⟩
  exact rangesOf_in (m := fun c => F (inB a c) (inB b c)) hm (by omega) (by omega)
theorem has_v (v : Bool) (A : Option Addr) (n c : Nat) (l : RL) (ch : Int) (w : World) (hl : Rs w A n l) (hn : n ≤ 100000) (h0 : chk l = 0) (hv : inB l ch = v) :
    Calls Tryd.prog 24 #[.slice A n c, .int .i64 ch] w fun e w' => e = .returned (.bool v) ∧ Below w.heap.size w w' := by
  rw [← hv]; exact has_any A n c l ch w hl hn h0

set_option maxRecDepth 100000 in
set_option maxHeartbeats 16000000 in
theorem members_walk (w : World) (A : Option Addr) (n c : Nat) (a : RL) (ha : Rs w A n a) (hn : n ≤ maxLen) (B : Option Addr) (m d : Nat) (b : RL) (hb : Rs w B m b) (hm : m ≤ maxLen) (x : Int) (hx : (Lit.int .u16 x).wf = true) (hT : Tab w) :
    Calls Tryd.prog 6 #[.slice A n c, .slice B m d, .int .u16 x] w fun e w' => e = .returned (.bool true) ∧ Below w.heap.size w w' := by
  unfold maxLen at hn hm
  have hx' : 0 ≤ x ∧ x ≤ 65535 := by simpa [Lit.wf, IntKind.min, IntKind.max, IntKind.bits, IntKind.signed] using hx
  clear hx
  obtain ⟨hx0, hx1⟩ := hx'
  by_cases h : 60 < n
  · have h' : (60 : Int) < (n : Int) := by omega
    go_enter Tryd.func6, Tryd.ntmps6
    go_wp2_with fail
    refine (awake_any _ hT).mono ?_
    rintro e w1 ⟨rfl, hb1⟩
    go_wp2_with fail
    go_ret
    exact ⟨rfl, hb1⟩
  · have h' : ¬ (60 : Int) < (n : Int) := by omega
    by_cases g : 60 < m
    · have g' : (60 : Int) < (m : Int) := by omega
      go_enter Tryd.func6, Tryd.ntmps6
      go_wp2_with fail
      refine (awake_any _ hT).mono ?_
      rintro e w1 ⟨rfl, hb1⟩
      go_wp2_with fail
      go_ret
      exact ⟨rfl, hb1⟩
    · have g' : ¬ (60 : Int) < (m : Int) := by omega
      by_cases ha0 : chk a = 0
      · by_cases hb0 : chk b = 0
        · have Ha := Lib.hid ha0
          have Hb := Lib.hid hb0
          clear ha0 hb0
          obtain ⟨U, hU, hU0, hUi, hUl⟩ := comb_in or Ha.out Hb.out rfl (c := 1 + x % 999) (by omega) (by omega)
          obtain ⟨M, hM, hM0, hMi, hMl⟩ := comb_in (fun x y => x && !y) Ha.out Hb.out rfl (c := 1 + x % 999) (by omega) (by omega)
          obtain ⟨I, hI, hI0, hIi, hIl⟩ := comb_in and Ha.out Hb.out rfl (c := 1 + x % 999) (by omega) (by omega)
          have HU := Lib.hid hU
          have HM := Lib.hid hM
          have HI := Lib.hid hI
          have HU0 := Lib.hid hU0
          have HM0 := Lib.hid hM0
          have HI0 := Lib.hid hI0
          have hyb : 0 ≤ 1 + x % 999 ∧ 1 + x % 999 ≤ 999 := by omega
          cases hp : inB a (1 + x % 999) <;> cases hq : inB b (1 + x % 999)
          all_goals
            rw [hp, hq] at hUi hMi hIi
            have HUi := Lib.hid hUi
            have HMi := Lib.hid hMi
            have HIi := Lib.hid hIi
            have Hp := Lib.hid hp
            have Hq := Lib.hid hq
            clear hU hM hI hU0 hM0 hI0 hUi hMi hIi hp hq
            go_enter Tryd.func6, Tryd.ntmps6
            go_wp2_with fail
            refine (check_any _ _ c a _ ha (by omega)).mono ?_
            rw [Ha.out]
            rintro e w1 ⟨rfl, hB⟩
            replace ha := ha.below hB
            replace hb := hb.below hB
            replace hT := hT.below hB
            go_wp2_with fail
            refine (check_any _ _ d b _ hb (by omega)).mono ?_
            rw [Hb.out]
            rintro e w2 ⟨rfl, hb1⟩
            replace ha := ha.below hb1; replace hb := hb.below hb1; replace hT := hT.below hb1; replace hB := hB.trans (hb1.mono hB.size); clear hb1
            go_wp2_with fail
            refine (unionP_any _ _ c a _ _ d b _ ha hb (by omega) (by omega)).mono ?_
            rw [HU.out]
            rintro e w3 ⟨r, rfl, A3, c3, rfl, ho, hb1⟩
            have hu := OutR.rs ho rfl
            clear ho
            replace ha := ha.below hb1; replace hb := hb.below hb1; replace hT := hT.below hb1; replace hB := hB.trans (hb1.mono hB.size); clear hb1
            go_wp2_with fail
            refine (minusP_any _ _ c a _ _ d b _ ha hb (by omega) (by omega)).mono ?_
            rw [HM.out]
            rintro e w4 ⟨r, rfl, A4, c4, rfl, ho, hb1⟩
            have hm1 := OutR.rs ho rfl
            clear ho
            replace ha := ha.below hb1; replace hb := hb.below hb1; replace hT := hT.below hb1; replace hu := hu.below hb1; replace hB := hB.trans (hb1.mono hB.size); clear hb1
            go_wp2_with fail
            refine (commonP_any _ _ c a _ _ d b _ ha hb (by omega) (by omega)).mono ?_
            rw [HI.out]
            rintro e w5 ⟨r, rfl, A5, c5, rfl, ho, hb1⟩
            have hi1 := OutR.rs ho rfl
            clear ho
            replace ha := ha.below hb1; replace hb := hb.below hb1; replace hT := hT.below hb1; replace hu := hu.below hb1; replace hm1 := hm1.below hb1; replace hB := hB.trans (hb1.mono hB.size); clear hb1
            go_wp2_with fail
            refine (has_v _ _ _ c a _ _ ha (by omega) Ha.out Hp.out).mono ?_
            rintro e w6 ⟨rfl, hb1⟩
            replace ha := ha.below hb1; replace hb := hb.below hb1; replace hT := hT.below hb1; replace hu := hu.below hb1; replace hm1 := hm1.below hb1; replace hi1 := hi1.below hb1; replace hB := hB.trans (hb1.mono hB.size); clear hb1
            go_wp2_with fail
            refine (has_v _ _ _ d b _ _ hb (by omega) Hb.out Hq.out).mono ?_
            rintro e w7 ⟨rfl, hb1⟩
            replace ha := ha.below hb1; replace hb := hb.below hb1; replace hT := hT.below hb1; replace hu := hu.below hb1; replace hm1 := hm1.below hb1; replace hi1 := hi1.below hb1; replace hB := hB.trans (hb1.mono hB.size); clear hb1
            go_wp2_with fail
            refine (has_v _ _ _ c3 U _ _ hu (by omega) HU0.out HUi.out).mono ?_
            rintro e w8 ⟨rfl, hb1⟩
            replace hT := hT.below hb1; replace hm1 := hm1.below hb1; replace hi1 := hi1.below hb1; replace hB := hB.trans (hb1.mono hB.size); clear hb1
            go_wp2_with fail
            refine (has_v _ _ _ c4 M _ _ hm1 (by omega) HM0.out HMi.out).mono ?_
            rintro e w9 ⟨rfl, hb1⟩
            replace hT := hT.below hb1; replace hi1 := hi1.below hb1; replace hB := hB.trans (hb1.mono hB.size); clear hb1
            go_wp2_with fail
            refine (has_v _ _ _ c5 I _ _ hi1 (by omega) HI0.out HIi.out).mono ?_
            rintro e w10 ⟨rfl, hb1⟩
            replace hT := hT.below hb1; replace hB := hB.trans (hb1.mono hB.size); clear hb1
            go_wp2_with fail
            refine (awake_any _ hT).mono ?_
            rintro e w11 ⟨rfl, hb1⟩
            replace hB := hB.trans (hb1.mono hB.size); clear hb1
            go_wp2_with fail
            go_ret
            exact ⟨rfl, hB⟩
        · have Ha := Lib.hid ha0
          clear ha0
          generalize hy : chk b = y at *
          have Hy := Lib.hid hy
          clear hy
          have h0' : (y != 0) = true := by simpa using hb0
          clear hb0
          go_enter Tryd.func6, Tryd.ntmps6
          go_wp2_with fail
          refine (check_any _ _ c a _ ha (by omega)).mono ?_
          rw [Ha.out]
          rintro e w1 ⟨rfl, hB⟩
          replace hb := hb.below hB
          replace hT := hT.below hB
          go_wp2_with fail
          refine (check_any _ _ d b _ hb (by omega)).mono ?_
          rw [Hy.out]
          rintro e w2 ⟨rfl, hb1⟩
          replace hT := hT.below hb1; replace hB := hB.trans (hb1.mono hB.size); clear hb1
          go_wp2_with fail
          refine (awake_any _ hT).mono ?_
          rintro e w3 ⟨rfl, hb1⟩
          replace hB := hB.trans (hb1.mono hB.size); clear hb1
          go_wp2_with fail
          go_ret
          exact ⟨rfl, hB⟩
      · generalize hy : chk a = y at *
        have Hy := Lib.hid hy
        clear hy
        have h0' : (y != 0) = true := by simpa using ha0
        clear ha0
        go_enter Tryd.func6, Tryd.ntmps6
        go_wp2_with fail
        refine (check_any _ _ c a _ ha (by omega)).mono ?_
        rw [Hy.out]
        rintro e w1 ⟨rfl, hB⟩
        replace hT := hT.below hB
        go_wp2_with fail
        refine (awake_any _ hT).mono ?_
        rintro e w3 ⟨rfl, hb1⟩
        replace hB := hB.trans (hb1.mono hB.size); clear hb1
        go_wp2_with fail
        go_ret
        exact ⟨rfl, hB⟩
end Go.Proofs.YteaofninjbhiaaaDoor
