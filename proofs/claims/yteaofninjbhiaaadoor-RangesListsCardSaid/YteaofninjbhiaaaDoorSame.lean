/- Contracts of the reference's Same, and of the law's same. -/
import Derived.Test.YteaofninjbhiaaaDoorEq
namespace Go.Proofs.YteaofninjbhiaaaDoor
open Go.RowKit

set_option maxHeartbeats 2000000 in
theorem refSame_any (A : Option Addr) (n c : Nat) (l : RL) (B : Option Addr) (n' c' : Nat) (m : RL) (w : World) (hl : Rs w A n l) (hm : Rs w B n' m) (hn : n ≤ 1000000) (hn' : n' ≤ 1000000) :
    Calls Tryd.prog 55 #[.slice A n c, .slice B n' c'] w fun e w' => e = .returned (.bool (decide (l = m))) ∧ Below w.heap.size w w' := by
  obtain ⟨rfl, _⟩ := id hl
  obtain ⟨rfl, _⟩ := id hm
  by_cases hlen : l.length = m.length
  · have hb0 : ((l.length : Int) != (m.length : Int)) = false := by simp [hlen]
    have Hlen := Lib.hid hlen
    clear hlen
    go_enter Tryd.func55, Tryd.ntmps55
    go_wp2
    go_loopw [5] (fun i wr => ∃ k : Nat, k ≤ l.length ∧ i = .int .i64 k ∧ Below w.heap.size w wr ∧ l.take k = m.take k) (fun i _ => l.length - (intOf i).toNat)
    case atStart => exact ⟨0, Nat.zero_le _, rfl, Below.refl _ _, rfl⟩
    case round =>
      obtain ⟨k, hk, rfl, hb, heq⟩ := hrel
      have Heq := Lib.hid heq
      clear heq
      by_cases hlt : k < l.length
      · have hlt' : k < m.length := by have := Hlen.out; omega
        obtain ⟨b, o, rfl, hbl, hc1, hc2⟩ := (hl.below hb).at1 hlt
        obtain ⟨b', o', rfl, hbl', hd1, hd2⟩ := (hm.below hb).at1 hlt'
        by_cases hxy : l[k] = m[k]
        · have hnext := Lib.hid (take_succ_eq Heq.out hlt hlt' hxy)
          rw [← hxy] at hd1 hd2
          clear hxy
          generalize l[k].1 = x at *
          generalize l[k].2 = y at *
          go_wp2
          try (go_quiet (fail); go_wp2)
          go_roundw
          case rel => exact ⟨k + 1, by omega, by go_num, by (repeat (first | exact Below.refl _ _ | assumption | apply Below.drew | apply below_drewN | (refine Below.alloc ?_ (by first | omega | (simp; omega) | simp) _) | (refine Below.setCell ?_ (by first | omega | (simp; omega) | simp) _) | (refine Below.trans ?_ (Below.mono (by assumption) (by first | omega | (simp; omega) | simp))))), hnext.out⟩
          case measure => simp [intOf]; omega
        · have hne := Lib.hid (ne_at hlt hlt' hxy)
          have hp := pair_ne (x1 := l[k].1) (y1 := l[k].2) (x2 := m[k].1) (y2 := m[k].2) hxy
          clear hxy
          generalize l[k].1 = x1 at *
          generalize l[k].2 = y1 at *
          generalize m[k].1 = x2 at *
          generalize m[k].2 = y2 at *
          rcases hp with hp | ⟨hp, hp'⟩
          all_goals
            go_wp2
            try (go_quiet (fail); go_wp2)
            go_ret
            exact ⟨ret_bool (by simpa using hne.out), by (repeat (first | exact Below.refl _ _ | assumption | apply Below.drew | apply below_drewN | (refine Below.alloc ?_ (by first | omega | (simp; omega) | simp) _) | (refine Below.setCell ?_ (by first | omega | (simp; omega) | simp) _) | (refine Below.trans ?_ (Below.mono (by assumption) (by first | omega | (simp; omega) | simp)))))⟩
      · obtain rfl : k = l.length := by omega
        have he : l = m := by have := Heq.out; rwa [List.take_length, Hlen.out, List.take_length] at this
        have He := Lib.hid he
        clear he
        go_wp2
        go_ret
        exact ⟨ret_bool (by simpa using He.out), hb⟩
  · have hb0 : ((l.length : Int) != (m.length : Int)) = true := by simp; omega
    have hne := Lib.hid (show ¬ l = m from fun h => hlen (by rw [h]))
    clear hlen
    go_enter Tryd.func55, Tryd.ntmps55
    go_wp2
    go_ret
    exact ⟨ret_bool (by simpa using hne.out), Below.refl _ _⟩

set_option maxHeartbeats 1000000 in
theorem same_any (A : Option Addr) (n c : Nat) (l : RL) (B : Option Addr) (n' c' : Nat) (m : RL) (w : World) (hl : Rs w A n l) (hm : Rs w B n' m) (hn : n ≤ 1000000) (hn' : n' ≤ 1000000) :
    Calls Tryd.prog 23 #[.slice A n c, .slice B n' c'] w fun e w' => e = .returned (.bool (decide (l = m))) ∧ Below w.heap.size w w' := by
  go_enter Tryd.func23, Tryd.ntmps23
  go_wp2_with fail
  refine (own_any _ _ c l _ hl hn).mono ?_
  rintro e w1 ⟨r, rfl, A1, c1, rfl, ho, hb1⟩
  go_wp2_with fail
  refine (refSame_any _ _ c1 l _ _ c' m _ (OutR.rs ho rfl) (hm.below hb1) (by have := hl.1; omega) hn').mono ?_
  rintro e w2 ⟨rfl, hb2⟩
  go_wp2_with fail
  go_ret
  exact ⟨rfl, hb1.trans (hb2.mono hb1.size)⟩
end Go.Proofs.YteaofninjbhiaaaDoor
