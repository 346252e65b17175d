/- Contracts of slices.Equal at ints and at ranges, of the reference's Same, and of the law's same. -/
import Derived.Test.YteaofninjbhiaaaDoorRefMake
namespace Go.Proofs.YteaofninjbhiaaaDoor
open Go.RowKit

theorem take_succ_eq {α : Type} {l m : List α} {k : Nat} (h : l.take k = m.take k) (hl : k < l.length) (hm : k < m.length) (e : l[k] = m[k]) : l.take (k + 1) = m.take (k + 1) := by
  rw [List.take_succ_eq_append_getElem hl, List.take_succ_eq_append_getElem hm, h, e]
theorem ne_at {α : Type} {l m : List α} {k : Nat} (hl : k < l.length) (hm : k < m.length) (e : ¬ l[k] = m[k]) : ¬ l = m := by
  intro h; subst h; exact e rfl

set_option maxHeartbeats 1000000 in
theorem equalI_any (A : Option Addr) (n c : Nat) (l : List Int) (B : Option Addr) (n' c' : Nat) (m : List Int) (w : World) (hl : Is w A n l) (hm : Is w B n' m) (hn : n ≤ 1000000000) (hn' : n' ≤ 1000000000) :
    Calls Tryd.prog 32 #[.slice A n c, .slice B n' c'] w fun e w' => e = .returned (.bool (decide (l = m))) ∧ Below w.heap.size w w' := by
  obtain ⟨rfl, _⟩ := id hl
  obtain ⟨rfl, _⟩ := id hm
  by_cases hlen : l.length = m.length
  · have hb0 : ((l.length : Int) != (m.length : Int)) = false := by simp [hlen]
    have Hlen := Lib.hid hlen
    clear hlen
    go_enter Tryd.func32, Tryd.ntmps32
    go_wp2
    go_loopw [13] (fun i wr => ∃ k : Nat, k ≤ l.length ∧ i = .int .i64 k ∧ Below w.heap.size w wr ∧ l.take k = m.take k) (fun i _ => l.length - (intOf i).toNat)
    case atStart => exact ⟨0, Nat.zero_le _, rfl, Below.refl _ _, rfl⟩
    case round =>
      obtain ⟨k, hk, rfl, hb, heq⟩ := hrel
      have Heq := Lib.hid heq
      clear heq
      by_cases hlt : k < l.length
      · have hlt' : k < m.length := by have := Hlen.out; omega
        obtain ⟨b, o, rfl, hbl, hc1⟩ := (hl.below hb).at1 hlt
        obtain ⟨b', o', rfl, hbl', hd1⟩ := (hm.below hb).at1 hlt'
        by_cases hxy : l[k] = m[k]
        · have hnext := Lib.hid (take_succ_eq Heq.out hlt hlt' hxy)
          rw [← hxy] at hd1
          clear hxy
          generalize l[k] = x at *
          go_wp2
          try (go_quiet (fail); go_wp2)
          go_roundw
          case rel => exact ⟨k + 1, by omega, by go_num, by (repeat (first | exact Below.refl _ _ | assumption | apply Below.drew | apply below_drewN | (refine Below.alloc ?_ (by first | omega | (simp; omega) | simp) _) | (refine Below.setCell ?_ (by first | omega | (simp; omega) | simp) _) | (refine Below.trans ?_ (Below.mono (by assumption) (by first | omega | (simp; omega) | simp))))), hnext.out⟩
          case measure => simp [intOf]; omega
        · have hne := Lib.hid (ne_at hlt hlt' hxy)
          generalize l[k] = x at *
          generalize m[k] = y at *
          have hx1 : (x != y) = true := by simpa using hxy
          have hx2 : (x == y) = false := by simpa using hxy
          clear hxy
          go_wp2
          try (go_quiet (fail); go_wp2)
          go_ret
          exact ⟨ret_bool (by simpa using hne.out), by (repeat (first | exact Below.refl _ _ | assumption | apply Below.drew | apply below_drewN | (refine Below.alloc ?_ (by first | omega | (simp; omega) | simp) _) | (refine Below.setCell ?_ (by first | omega | (simp; omega) | simp) _) | (refine Below.trans ?_ (Below.mono (by assumption) (by first | omega | (simp; omega) | simp)))))⟩
      · obtain rfl : k = l.length := by omega
        have he : l = m := by have := Heq.out; rwa [List.take_length, Hlen.out, List.take_length] at this
        have He := Lib.hid he
        clear he
        go_wp2
        go_ret
        exact ⟨ret_bool (by simpa using He.out), hb⟩
  · have hb0 : ((l.length : Int) != (m.length : Int)) = true := by simp; omega
    have hne := Lib.hid (show ¬ l = m from fun h => hlen (by rw [h]))
    clear hlen
    go_enter Tryd.func32, Tryd.ntmps32
    go_wp2
    go_ret
    exact ⟨ret_bool (by simpa using hne.out), Below.refl _ _⟩

theorem pair_ne {x1 y1 x2 y2 : Int} (h : ¬ (x1, y1) = (x2, y2)) : (x1 == x2) = false ∨ ((x1 == x2) = true ∧ (y1 == y2) = false) := by
  by_cases h1 : x1 = x2
  · refine .inr ⟨by simpa using h1, ?_⟩
    simp; intro h2; exact h (by rw [h1, h2])
  · exact .inl (by simpa using h1)

set_option maxHeartbeats 2000000 in
theorem equalR_any (A : Option Addr) (n c : Nat) (l : RL) (B : Option Addr) (n' c' : Nat) (m : RL) (w : World) (hl : Rs w A n l) (hm : Rs w B n' m) (hn : n ≤ 1000000) (hn' : n' ≤ 1000000) :
    Calls Tryd.prog 16 #[.slice A n c, .slice B n' c'] w fun e w' => e = .returned (.bool (decide (l = m))) ∧ Below w.heap.size w w' := by
  obtain ⟨rfl, _⟩ := id hl
  obtain ⟨rfl, _⟩ := id hm
  by_cases hlen : l.length = m.length
  · have hb0 : ((l.length : Int) != (m.length : Int)) = false := by simp [hlen]
    have Hlen := Lib.hid hlen
    clear hlen
    go_enter Tryd.func16, Tryd.ntmps16
    go_wp2
    go_loopw [13] (fun i wr => ∃ k : Nat, k ≤ l.length ∧ i = .int .i64 k ∧ Below w.heap.size w wr ∧ l.take k = m.take k) (fun i _ => l.length - (intOf i).toNat)
    case atStart => exact ⟨0, Nat.zero_le _, rfl, Below.refl _ _, rfl⟩
    case round =>
      obtain ⟨k, hk, rfl, hb, heq⟩ := hrel
      have Heq := Lib.hid heq
      clear heq
      by_cases hlt : k < l.length
      · have hlt' : k < m.length := by have := Hlen.out; omega
        obtain ⟨b, o, rfl, hbl, hc1, hc2⟩ := (hl.below hb).at1 hlt
        obtain ⟨b', o', rfl, hbl', hd1, hd2⟩ := (hm.below hb).at1 hlt'
        by_cases hxy : l[k] = m[k]
        · have hnext := Lib.hid (take_succ_eq Heq.out hlt hlt' hxy)
          rw [← hxy] at hd1 hd2
          clear hxy
          generalize l[k].1 = x at *
          generalize l[k].2 = y at *
          go_wp2
          try (go_quiet (fail); go_wp2)
          go_roundw
          case rel => exact ⟨k + 1, by omega, by go_num, by (repeat (first | exact Below.refl _ _ | assumption | apply Below.drew | apply below_drewN | (refine Below.alloc ?_ (by first | omega | (simp; omega) | simp) _) | (refine Below.setCell ?_ (by first | omega | (simp; omega) | simp) _) | (refine Below.trans ?_ (Below.mono (by assumption) (by first | omega | (simp; omega) | simp))))), hnext.out⟩
          case measure => simp [intOf]; omega
        · have hne := Lib.hid (ne_at hlt hlt' hxy)
          have hp := pair_ne (x1 := l[k].1) (y1 := l[k].2) (x2 := m[k].1) (y2 := m[k].2) hxy
          clear hxy
          generalize l[k].1 = x1 at *
          generalize l[k].2 = y1 at *
          generalize m[k].1 = x2 at *
          generalize m[k].2 = y2 at *
          rcases hp with hp | ⟨hp, hp'⟩
          all_goals
            go_wp2
            try (go_quiet (fail); go_wp2)
            go_ret
            exact ⟨ret_bool (by simpa using hne.out), by (repeat (first | exact Below.refl _ _ | assumption | apply Below.drew | apply below_drewN | (refine Below.alloc ?_ (by first | omega | (simp; omega) | simp) _) | (refine Below.setCell ?_ (by first | omega | (simp; omega) | simp) _) | (refine Below.trans ?_ (Below.mono (by assumption) (by first | omega | (simp; omega) | simp)))))⟩
      · obtain rfl : k = l.length := by omega
        have he : l = m := by have := Heq.out; rwa [List.take_length, Hlen.out, List.take_length] at this
        have He := Lib.hid he
        clear he
        go_wp2
        go_ret
        exact ⟨ret_bool (by simpa using He.out), hb⟩
  · have hb0 : ((l.length : Int) != (m.length : Int)) = true := by simp; omega
    have hne := Lib.hid (show ¬ l = m from fun h => hlen (by rw [h]))
    clear hlen
    go_enter Tryd.func16, Tryd.ntmps16
    go_wp2
    go_ret
    exact ⟨ret_bool (by simpa using hne.out), Below.refl _ _⟩
end Go.Proofs.YteaofninjbhiaaaDoor
