/- Contracts of the reference's Without, Union, Minus and Common. -/
import Derived.Test.YteaofninjbhiaaaDoorRefComb
namespace Go.Proofs.YteaofninjbhiaaaDoor
open Go.RowKit

set_option maxHeartbeats 400000 in
theorem refWithout_any (A : Option Addr) (n c : Nat) (a : RL) (B : Option Addr) (n' c' : Nat) (b : RL) (w : World) (ha : Rs w A n a) (hb : Rs w B n' b) (hn : n ≤ 100000) (hn' : n' ≤ 100000)
    (hra : ∀ r ∈ a, 1 ≤ r.1 ∧ r.1 ≤ r.2 ∧ r.2 ≤ 999) :
    Calls Tryd.prog 52 #[.slice A n c, .slice B n' c'] w fun e w' => ∃ r, e = .returned r ∧ OutR 73 (rangesOf fun c => inB a c && (inB b c == false)) w r w' := by
  have hfin := Lib.hid hra
  clear hra
  go_enter Tryd.func52, Tryd.ntmps52
  go_wp2_with fail
  refine (refKept_any false _ _ c a _ _ c' b _ ha hb hn hn' hfin.out).mono ?_
  rintro e w1 ⟨r, rfl, A1, c1, rfl, ho1, hb1⟩
  generalize hL : (rangesOf fun c => inB a c && (inB b c == false)) = L at *
  have HL := Lib.hid hL
  clear hL
  go_wp2_with fail
  go_ret
  rw [HL.out]
  exact ⟨_, rfl, A1, c1, rfl, ho1, hb1⟩

set_option maxHeartbeats 1000000 in
theorem refUnion_any (A : Option Addr) (n c : Nat) (a : RL) (B : Option Addr) (n' c' : Nat) (b : RL) (w : World) (ha : Rs w A n a) (hb : Rs w B n' b) (hn : n ≤ 100000) (hn' : n' ≤ 100000) :
    Calls Tryd.prog 18 #[.slice A n c, .slice B n' c'] w fun e w' => ∃ r, e = .returned (.tuple #[r, .int .i64 (combL or a b).2]) ∧ OutR 73 (combL or a b).1 w r w' := by
  by_cases h0 : bothE a b = 0
  · have ha0 : chk a = 0 := by
      by_cases h : chk a = 0
      · exact h
      · rw [bothE_bad h] at h0; exact absurd h0 h
    have hb0 : chk b = 0 := by rwa [bothE_ok ha0] at h0
    have H0 := Lib.hid h0
    have Ha0 := Lib.hid ha0
    have Hb0 := Lib.hid hb0
    have hfin := Lib.hid (combL_ok (F := or) ha0 hb0)
    have hset := Lib.hid (rangesOf_congr (m := fun c => inB a c || inB b c) (m' := fun c => or (inB a c) (inB b c)) (fun c _ => by show (inB a c || inB b c) = _; cases inB a c <;> cases inB b c <;> rfl))
    clear h0 ha0 hb0
    go_enter Tryd.func18, Tryd.ntmps18
    go_wp2_with fail
    refine (refBoth_any _ _ c a _ _ c' b _ ha hb (by omega) (by omega)).mono ?_
    rw [H0.out]
    rintro e w1 ⟨rfl, hb1⟩
    go_wp2_with fail
    refine (refUnited_any _ _ c a _ _ c' b _ (ha.below hb1) (hb.below hb1) hn hn' (chk_ok Ha0.out) (chk_ok Hb0.out)).mono ?_
    rintro e w2 ⟨r, rfl, ho⟩
    try rw [hset.out] at ho
    generalize (rangesOf fun c => or (inB a c) (inB b c)) = L at *
    obtain ⟨A1, c1, rfl, ho1, hb2⟩ := ho.up hb1
    go_wp2_with fail
    go_ret2
    rw [hfin.out]
    exact ⟨_, rfl, A1, c1, rfl, ho1, hb2⟩
  · have hfin : Hid (combL or a b = ([], bothE a b)) := by
      by_cases h : chk a = 0
      · rw [bothE_ok h] at h0 ⊢; exact combL_b h h0
      · rw [bothE_bad h]; exact combL_a h
    generalize hx : bothE a b = x at *
    have Hx := Lib.hid hx
    clear hx
    have h0' : (x != 0) = true := by simpa using h0
    clear h0
    go_enter Tryd.func18, Tryd.ntmps18
    go_wp2_with fail
    refine (refBoth_any _ _ c a _ _ c' b _ ha hb (by omega) (by omega)).mono ?_
    rw [Hx.out]
    rintro e w1 ⟨rfl, hb1⟩
    go_wp2_with fail
    go_ret2
    rw [hfin.out]
    exact ⟨_, rfl, OutR.nil hb1⟩

set_option maxHeartbeats 1000000 in
theorem refMinus_any (A : Option Addr) (n c : Nat) (a : RL) (B : Option Addr) (n' c' : Nat) (b : RL) (w : World) (ha : Rs w A n a) (hb : Rs w B n' b) (hn : n ≤ 100000) (hn' : n' ≤ 100000) :
    Calls Tryd.prog 20 #[.slice A n c, .slice B n' c'] w fun e w' => ∃ r, e = .returned (.tuple #[r, .int .i64 (combL (fun x y => x && !y) a b).2]) ∧ OutR 73 (combL (fun x y => x && !y) a b).1 w r w' := by
  by_cases h0 : bothE a b = 0
  · have ha0 : chk a = 0 := by
      by_cases h : chk a = 0
      · exact h
      · rw [bothE_bad h] at h0; exact absurd h0 h
    have hb0 : chk b = 0 := by rwa [bothE_ok ha0] at h0
    have H0 := Lib.hid h0
    have Ha0 := Lib.hid ha0
    have Hb0 := Lib.hid hb0
    have hfin := Lib.hid (combL_ok (F := (fun x y => x && !y)) ha0 hb0)
    have hset := Lib.hid (rangesOf_congr (m := fun c => inB a c && (inB b c == false)) (m' := fun c => (fun x y => x && !y) (inB a c) (inB b c)) (fun c _ => by show (inB a c && (inB b c == false)) = _; cases inB a c <;> cases inB b c <;> rfl))
    clear h0 ha0 hb0
    go_enter Tryd.func20, Tryd.ntmps20
    go_wp2_with fail
    refine (refBoth_any _ _ c a _ _ c' b _ ha hb (by omega) (by omega)).mono ?_
    rw [H0.out]
    rintro e w1 ⟨rfl, hb1⟩
    go_wp2_with fail
    refine (refWithout_any _ _ c a _ _ c' b _ (ha.below hb1) (hb.below hb1) hn hn' (chk_ok Ha0.out)).mono ?_
    rintro e w2 ⟨r, rfl, ho⟩
    try rw [hset.out] at ho
    generalize (rangesOf fun c => (fun x y => x && !y) (inB a c) (inB b c)) = L at *
    obtain ⟨A1, c1, rfl, ho1, hb2⟩ := ho.up hb1
    go_wp2_with fail
    go_ret2
    rw [hfin.out]
    exact ⟨_, rfl, A1, c1, rfl, ho1, hb2⟩
  · have hfin : Hid (combL (fun x y => x && !y) a b = ([], bothE a b)) := by
      by_cases h : chk a = 0
      · rw [bothE_ok h] at h0 ⊢; exact combL_b h h0
      · rw [bothE_bad h]; exact combL_a h
    generalize hx : bothE a b = x at *
    have Hx := Lib.hid hx
    clear hx
    have h0' : (x != 0) = true := by simpa using h0
    clear h0
    go_enter Tryd.func20, Tryd.ntmps20
    go_wp2_with fail
    refine (refBoth_any _ _ c a _ _ c' b _ ha hb (by omega) (by omega)).mono ?_
    rw [Hx.out]
    rintro e w1 ⟨rfl, hb1⟩
    go_wp2_with fail
    go_ret2
    rw [hfin.out]
    exact ⟨_, rfl, OutR.nil hb1⟩

set_option maxHeartbeats 1000000 in
theorem refCommon_any (A : Option Addr) (n c : Nat) (a : RL) (B : Option Addr) (n' c' : Nat) (b : RL) (w : World) (ha : Rs w A n a) (hb : Rs w B n' b) (hn : n ≤ 100000) (hn' : n' ≤ 100000) :
    Calls Tryd.prog 22 #[.slice A n c, .slice B n' c'] w fun e w' => ∃ r, e = .returned (.tuple #[r, .int .i64 (combL and a b).2]) ∧ OutR 73 (combL and a b).1 w r w' := by
  by_cases h0 : bothE a b = 0
  · have ha0 : chk a = 0 := by
      by_cases h : chk a = 0
      · exact h
      · rw [bothE_bad h] at h0; exact absurd h0 h
    have hb0 : chk b = 0 := by rwa [bothE_ok ha0] at h0
    have H0 := Lib.hid h0
    have Ha0 := Lib.hid ha0
    have Hb0 := Lib.hid hb0
    have hfin := Lib.hid (combL_ok (F := and) ha0 hb0)
    have hset := Lib.hid (rangesOf_congr (m := fun c => inB a c && (inB b c == true)) (m' := fun c => and (inB a c) (inB b c)) (fun c _ => by show (inB a c && (inB b c == true)) = _; cases inB a c <;> cases inB b c <;> rfl))
    clear h0 ha0 hb0
    go_enter Tryd.func22, Tryd.ntmps22
    go_wp2_with fail
    refine (refBoth_any _ _ c a _ _ c' b _ ha hb (by omega) (by omega)).mono ?_
    rw [H0.out]
    rintro e w1 ⟨rfl, hb1⟩
    go_wp2_with fail
    refine (refKept_any true _ _ c a _ _ c' b _ (ha.below hb1) (hb.below hb1) hn hn' (chk_ok Ha0.out)).mono ?_
    rintro e w2 ⟨r, rfl, ho⟩
    try rw [hset.out] at ho
    generalize (rangesOf fun c => and (inB a c) (inB b c)) = L at *
    obtain ⟨A1, c1, rfl, ho1, hb2⟩ := ho.up hb1
    go_wp2_with fail
    go_ret2
    rw [hfin.out]
    exact ⟨_, rfl, A1, c1, rfl, ho1, hb2⟩
  · have hfin : Hid (combL and a b = ([], bothE a b)) := by
      by_cases h : chk a = 0
      · rw [bothE_ok h] at h0 ⊢; exact combL_b h h0
      · rw [bothE_bad h]; exact combL_a h
    generalize hx : bothE a b = x at *
    have Hx := Lib.hid hx
    clear hx
    have h0' : (x != 0) = true := by simpa using h0
    clear h0
    go_enter Tryd.func22, Tryd.ntmps22
    go_wp2_with fail
    refine (refBoth_any _ _ c a _ _ c' b _ ha hb (by omega) (by omega)).mono ?_
    rw [Hx.out]
    rintro e w1 ⟨rfl, hb1⟩
    go_wp2_with fail
    go_ret2
    rw [hfin.out]
    exact ⟨_, rfl, OutR.nil hb1⟩
end Go.Proofs.YteaofninjbhiaaaDoor
