/- Contracts of the reference's Make, Of and Both. -/
import Derived.Test.YteaofninjbhiaaaDoorRefCheck
namespace Go.Proofs.YteaofninjbhiaaaDoor
open Go.RowKit

set_option maxRecDepth 100000 in
set_option maxHeartbeats 2000000 in
theorem refMake_any (A : Option Addr) (n c : Nat) (l : RL) (w : World) (hl : Rs w A n l) (hn : n ≤ 1000000) :
    Calls Tryd.prog 34 #[.slice A n c] w fun e w' => ∃ r, e = .returned (.tuple #[r, .int .i64 (makeL l).2]) ∧ OutR 73 (makeL l).1 w r w' := by
  obtain ⟨rfl, _⟩ := id hl
  by_cases hmany : 256 < l.length
  · rw [makeL_many hmany]
    go_enter Tryd.func34, Tryd.ntmps34
    go_wp2
    go_ret2
    exact ⟨_, rfl, OutR.nil (Below.refl _ _)⟩
  · have hsm : l.length ≤ 256 := by omega
    go_enter Tryd.func34, Tryd.ntmps34
    go_wp2
    go_loopw [4] (fun i wr => ∃ k : Nat, k ≤ l.length ∧ i = .int .i64 k ∧ Below w.heap.size w wr ∧ (l.take k).all (fun r => rightB r.1 r.2) = true) (fun i _ => l.length - (intOf i).toNat)
    case atStart => exact ⟨0, Nat.zero_le _, rfl, Below.refl _ _, by simp⟩
    case round =>
      obtain ⟨k, hk, rfl, hb, hall⟩ := hrel
      have hsz := hb.size
      have hHall := Lib.hid hall
      clear hall
      by_cases hlt : k < l.length
      · obtain ⟨b, o, rfl, hbl, hc1, hc2⟩ := (hl.below hb).at1 hlt
        cases hr : rightB l[k].1 l[k].2 with
        | false =>
          have hfin := Lib.hid (makeL_bad hsm k hlt hr)
          generalize l[k].1 = x at *
          generalize l[k].2 = y at *
          go_wp2_with (go_at_call 59; refine (refRight_any _ _ _).mono ?_; rintro e w1 ⟨rfl, hb1⟩)
          go_ret2
          rw [hfin.out]
          exact ⟨_, rfl, OutR.nil (by (repeat (first | exact Below.refl _ _ | assumption | apply Below.drew | apply below_drewN | (refine Below.alloc ?_ (by first | omega | (simp; omega) | simp) _) | (refine Below.setCell ?_ (by first | omega | (simp; omega) | simp) _) | (refine Below.trans ?_ (Below.mono (by assumption) (by first | omega | (simp; omega) | simp))))))⟩
        | true =>
          have hna := Lib.hid (all_take l (fun r => rightB r.1 r.2) k hlt hHall.out)
          generalize l[k].1 = x at *
          generalize l[k].2 = y at *
          go_wp2_with (go_at_call 59; refine (refRight_any _ _ _).mono ?_; rintro e w1 ⟨rfl, hb1⟩)
          go_roundw
          case rel => exact ⟨k + 1, by omega, by go_num, by (repeat (first | exact Below.refl _ _ | assumption | apply Below.drew | apply below_drewN | (refine Below.alloc ?_ (by first | omega | (simp; omega) | simp) _) | (refine Below.setCell ?_ (by first | omega | (simp; omega) | simp) _) | (refine Below.trans ?_ (Below.mono (by assumption) (by first | omega | (simp; omega) | simp))))), by rw [hna.out]; exact hr⟩
          case measure => simp [intOf]; omega
      · obtain rfl : k = l.length := by omega
        have hok := hHall.out
        rw [List.take_length] at hok
        have hfin := Lib.hid (makeL_ok hsm hok)
        have h0 := Lib.hid (inB_zero (rightB_all hok))
        have hrr := Lib.hid (rightB_all hok)
        clear hok
        go_wp2_with (first | (go_at_call 61; refine (refMembers_any _ _ c l _ (hl.below hb) hn hrr.out).mono ?_; rintro e w1 ⟨rfl, hbm, hb1⟩) | (go_at_call 60; refine (refRanges_any _ _ _ hbm h0.out).mono ?_; rintro e w2 ⟨r, rfl, ho⟩))
        go_ret2
        rw [hfin.out]
        exact ⟨_, rfl, ho.up (hb.trans (hb1.mono hsz))⟩

set_option maxRecDepth 100000 in
set_option maxHeartbeats 2000000 in
theorem refOf_any (A : Option Addr) (n c : Nat) (l : List Int) (w : World) (hl : Is w A n l) (hn : n ≤ 1000000000) :
    Calls Tryd.prog 36 #[.slice A n c] w fun e w' => ∃ r, e = .returned (.tuple #[r, .int .i64 (ofL l).2]) ∧ OutR 73 (ofL l).1 w r w' := by
  obtain ⟨rfl, _⟩ := id hl
  by_cases hmany : 4096 < l.length
  · rw [ofL_many hmany]
    go_enter Tryd.func36, Tryd.ntmps36
    go_wp2
    go_ret2
    exact ⟨_, rfl, OutR.nil (Below.refl _ _)⟩
  · have hsm : l.length ≤ 4096 := by omega
    go_enter Tryd.func36, Tryd.ntmps36
    go_wp2
    go_loop [4] (fun i => ∃ k : Nat, k ≤ l.length ∧ i = .int .i64 k ∧ (l.take k).all chanB = true) (fun i => l.length - (intOf i).toNat)
    case atStart => exact ⟨0, Nat.zero_le _, rfl, by simp⟩
    case round =>
      obtain ⟨k, hk, rfl, hall⟩ := hrel
      have hHall := Lib.hid hall
      clear hall
      by_cases hlt : k < l.length
      · obtain ⟨b, o, rfl, hbl, hc1⟩ := hl.at1 hlt
        by_cases hr : 1 ≤ l[k] ∧ l[k] ≤ 999
        · obtain ⟨hr1, hr2⟩ := hr
          have hna := Lib.hid ((all_take l chanB k hlt hHall.out).trans (by rw [chanB, decide_eq_true_eq]; exact ⟨hr1, hr2⟩))
          generalize l[k] = x at *
          go_wp2
          go_round
          case rel => exact ⟨k + 1, by omega, by go_num, hna.out⟩
          case measure => simp [intOf]; omega
        · have hfin := Lib.hid (ofL_bad hsm k hlt (by rw [chanB, decide_eq_false_iff_not]; exact hr))
          have hr' : l[k] < 1 ∨ 999 < l[k] := by omega
          clear hr
          generalize l[k] = x at *
          rcases hr' with hr' | hr'
          · go_wp2
            go_ret2
            rw [hfin.out]
            exact ⟨_, rfl, OutR.nil (Below.refl _ _)⟩
          · have hr3 : 1 ≤ x := by omega
            go_wp2
            go_ret2
            rw [hfin.out]
            exact ⟨_, rfl, OutR.nil (Below.refl _ _)⟩
      · obtain rfl : k = l.length := by omega
        have hok := hHall.out
        rw [List.take_length] at hok
        have hfin := Lib.hid (ofL_ok hsm hok)
        have hrr := Lib.hid (chanB_all hok)
        clear hok
        go_wp2_with (go_at_call 62; refine (refSet_any _ _ c l _ hl hn hrr.out).mono ?_; rintro e w2 ⟨r, rfl, ho⟩)
        go_ret2
        rw [hfin.out]
        exact ⟨_, rfl, ho⟩

/-- the error of two sets, from left to right -/
def bothE (a b : RL) : Int := if chk a = 0 then chk b else chk a
theorem bothE_bad {a b : RL} (h : ¬ chk a = 0) : bothE a b = chk a := if_neg h
theorem bothE_ok {a b : RL} (h : chk a = 0) : bothE a b = chk b := if_pos h
set_option maxHeartbeats 1000000 in
theorem refBoth_any (A : Option Addr) (n c : Nat) (a : RL) (B : Option Addr) (n' c' : Nat) (b : RL) (w : World) (ha : Rs w A n a) (hb : Rs w B n' b) (hn : n ≤ 1000000) (hn' : n' ≤ 1000000) :
    Calls Tryd.prog 49 #[.slice A n c, .slice B n' c'] w fun e w' => e = .returned (.int .i64 (bothE a b)) ∧ Below w.heap.size w w' := by
  by_cases h0 : chk a = 0
  · rw [bothE_ok h0]
    have H0 := Lib.hid h0
    clear h0
    go_enter Tryd.func49, Tryd.ntmps49
    go_wp2_with fail
    refine (refCheck_any _ _ c a _ ha hn).mono ?_
    rw [H0.out]
    rintro e w1 ⟨rfl, hb1⟩
    go_wp2_with fail
    refine (refCheck_any _ _ c' b _ (hb.below hb1) hn').mono ?_
    rintro e w2 ⟨rfl, hb2⟩
    go_wp2_with fail
    go_ret
    exact ⟨rfl, hb1.trans (hb2.mono hb1.size)⟩
  · rw [bothE_bad h0]
    generalize hx : chk a = x at *
    have Hx := Lib.hid hx
    clear hx
    have h0' : (x == 0) = false := by simpa using h0
    clear h0
    go_enter Tryd.func49, Tryd.ntmps49
    go_wp2_with fail
    refine (refCheck_any _ _ c a _ ha hn).mono ?_
    rw [Hx.out]
    rintro e w1 ⟨rfl, hb1⟩
    go_wp2_with fail
    go_ret
    exact ⟨rfl, hb1⟩
end Go.Proofs.YteaofninjbhiaaaDoor
