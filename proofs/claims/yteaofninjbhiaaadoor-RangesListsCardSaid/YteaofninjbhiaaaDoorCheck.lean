/- Contracts of right and Check, of the program and of the reference. -/
import Derived.Test.YteaofninjbhiaaaDoorWords
import Derived.Test.YteaofninjbhiaaaDoorPlain
import Derived.Test.YteaofninjbhiaaaDoorProg
import Derived.Deep.QuietTactic
import Derived.BigQuiet
namespace Go.Proofs.YteaofninjbhiaaaDoor
open Go.RowKit

theorem rightB_t {a b : Int} (h1 : 1 ≤ a) (h2 : a ≤ b) : rightB a b = decide (b ≤ 999) := by simp [rightB, h1, h2]
theorem rightB_t' {a b : Int} (h1 : 1 ≤ a) (h2 : b ≤ 999) : rightB a b = decide (a ≤ b) := by simp [rightB, h1, h2]
theorem rightB_f {a b : Int} (h1 : a < 1) : rightB a b = false := by rw [rightB_not]; omega
theorem rightB_g {a b : Int} (h1 : b < a) : rightB a b = false := by rw [rightB_not]; omega
theorem rightB_h {a b : Int} (h1 : 999 < b) : rightB a b = false := by rw [rightB_not]; omega

set_option maxHeartbeats 400000 in
theorem right_any (a b : Int) (w : World) :
    Calls Tryd.prog 42 #[.agg #[.int .i64 a, .int .i64 b]] w fun e w' => e = .returned (.bool (rightB a b)) ∧ Below w.heap.size w w' := by
  go_enter Tryd.func42, Tryd.ntmps42
  go_wp2
  all_goals
    go_ret
    exact ⟨ret_bool (by first | exact (rightB_t (by assumption) (by assumption)).symm | exact (rightB_f (by assumption)).symm | exact (rightB_g (by assumption)).symm), (Below.refl _ _).alloc (Nat.le_refl _) _⟩

set_option maxHeartbeats 400000 in
theorem refRight_any (a b : Int) (w : World) :
    Calls Tryd.prog 59 #[.agg #[.int .i64 a, .int .i64 b]] w fun e w' => e = .returned (.bool (rightB a b)) ∧ Below w.heap.size w w' := by
  go_enter Tryd.func59, Tryd.ntmps59
  go_wp2
  all_goals
    go_ret
    exact ⟨ret_bool (by first | exact (rightB_t' (by assumption) (by assumption)).symm | exact (rightB_f (by assumption)).symm | exact (rightB_h (by assumption)).symm), (Below.refl _ _).alloc (Nat.le_refl _) _⟩

/-- what a loop over the ranges of a set carries: the error of the rest is that of the whole -/
def ChkAt (l : RL) (k : Nat) : Prop := chkFrom (endB l k) (l.drop k) = chk l ∧ (0 < k → endB l k ≤ 999 ∧ 1 ≤ endB l k)
theorem chkAt_zero (l : RL) : ChkAt l 0 := ⟨rfl, fun h => absurd h (by omega)⟩
theorem chkAt_bad {l : RL} {k : Nat} (h : ChkAt l k) (hk : k < l.length) (hr : rightB l[k].1 l[k].2 = false) : chk l = 2 := by
  rw [← h.1, chk_step l k hk, hr]; rfl
theorem chkAt_order {l : RL} {k : Nat} (h : ChkAt l k) (hk : k < l.length) (hr : rightB l[k].1 l[k].2 = true) (hp : l[k].1 < endB l k + 2) : chk l = 9 := by
  rw [← h.1, chk_step l k hk, hr, if_pos rfl, if_pos hp]
theorem chkAt_next {l : RL} {k : Nat} (h : ChkAt l k) (hk : k < l.length) (hr : rightB l[k].1 l[k].2 = true) (hp : ¬ l[k].1 < endB l k + 2) : ChkAt l (k + 1) := by
  refine ⟨?_, fun _ => ?_⟩
  · have := h.1
    rw [chk_step l k hk, hr, if_pos rfl, if_neg hp] at this
    exact this
  · have e : endB l (k + 1) = l[k].2 := by simp [endB, hk]
    rw [e]
    have := rightB_iff.1 hr
    omega
theorem chkAt_end {l : RL} (h : ChkAt l l.length) : chk l = 0 := by rw [← h.1, chk_end]
theorem endB_succ {l : RL} {j : Nat} (hj : j < l.length) : endB l (j + 1) = l[j].2 := by simp [endB, hj]

set_option maxHeartbeats 1000000 in
theorem check_any (A : Option Addr) (n c : Nat) (l : RL) (w : World) (hl : Rs w A n l) (hn : n ≤ 1000000) :
    Calls Tryd.prog 14 #[.slice A n c] w fun e w' => e = .returned (.int .i64 (chk l)) ∧ Below w.heap.size w w' := by
  obtain ⟨rfl, _⟩ := id hl
  go_enter Tryd.func14, Tryd.ntmps14
  go_wp2
  go_loopw [7] (fun i wr => ∃ k : Nat, k ≤ l.length ∧ i = .int .i64 k ∧ Below w.heap.size w wr ∧ ChkAt l k) (fun i _ => l.length - (intOf i).toNat)
  case atStart => exact ⟨0, Nat.zero_le _, rfl, Below.refl _ _, chkAt_zero l⟩
  case round =>
    obtain ⟨k, hk, rfl, hb, hc⟩ := hrel
    have hsz := hb.size
    by_cases hlt : k < l.length
    · cases hr : rightB l[k].1 l[k].2 with
      | false =>
        obtain ⟨b, o, rfl, hbl, hc1, hc2⟩ := (hl.below hb).at1 hlt
        have hfin := Lib.hid (chkAt_bad hc hlt hr)
        clear hc
        generalize l[k].1 = x at *
        generalize l[k].2 = y at *
        go_wp2_with (go_at_call 42; refine (right_any _ _ _).mono ?_; rintro e w1 ⟨rfl, hb1⟩)
        go_ret
        exact ⟨ret_i64 hfin.out.symm, by repeat (first | exact Below.refl _ _ | assumption | apply Below.drew | (refine Below.alloc ?_ (by first | omega | (simp; omega)) _) | (refine Below.trans ?_ (Below.mono (by assumption) (by first | omega | (simp; omega)))))⟩
      | true =>
        rcases k with _ | j
        · obtain ⟨b, o, rfl, hbl, hc1, hc2⟩ := (hl.below hb).at1 hlt
          have hn := Lib.hid (chkAt_next hc hlt hr (by rw [rightB_iff] at hr; simp [endB]; omega))
          clear hc
          simp only [Nat.zero_mul, Nat.add_zero] at hc1 hc2
          generalize l[0].1 = x at *
          generalize l[0].2 = y at *
          go_wp2_with (go_at_call 42; refine (right_any _ _ _).mono ?_; rintro e w1 ⟨rfl, hb1⟩)
          go_quiet (fail)
          go_wp2
          go_roundw
          case rel => exact ⟨0 + 1, by omega, by go_num, by repeat (first | exact Below.refl _ _ | assumption | apply Below.drew | apply below_drewN | (refine Below.alloc ?_ (by first | omega | (simp; omega)) _) | (refine Below.trans ?_ (Below.mono (by assumption) (by first | omega | (simp; omega))))), hn.out⟩
          case measure => simp [intOf]; omega
        · obtain ⟨b, o, rfl, hbl, hc0, hc1, hc2⟩ := (hl.below hb).at2 hlt
          have he : endB l (j + 1) = (l[j]'(by omega)).2 := endB_succ (by omega)
          by_cases hord : l[j + 1].1 < (l[j]'(by omega)).2 + 2
          · have hfin := Lib.hid (chkAt_order hc hlt hr (by rw [he]; exact hord))
            have hbd := hc.2 (by omega)
            rw [he] at hbd
            clear hc he
            generalize l[j + 1].1 = x at *
            generalize l[j + 1].2 = y at *
            generalize (l[j]'(by omega)).2 = z at *
            go_wp2_with (go_at_call 42; refine (right_any _ _ _).mono ?_; rintro e w1 ⟨rfl, hb1⟩; obtain ⟨hcc, hcf⟩ := bcell hb1)
            go_quiet (fail)
            go_wp2
            go_ret
            exact ⟨ret_i64 hfin.out.symm, by repeat (first | exact Below.refl _ _ | assumption | apply Below.drew | apply below_drewN | (refine Below.alloc ?_ (by first | omega | (simp; omega)) _) | (refine Below.trans ?_ (Below.mono (by assumption) (by first | omega | (simp; omega)))))⟩
          · have hn := Lib.hid (chkAt_next hc hlt hr (by rw [he]; exact hord))
            have hbd := hc.2 (by omega)
            rw [he] at hbd
            clear hc he
            generalize l[j + 1].1 = x at *
            generalize l[j + 1].2 = y at *
            generalize (l[j]'(by omega)).2 = z at *
            go_wp2_with (go_at_call 42; refine (right_any _ _ _).mono ?_; rintro e w1 ⟨rfl, hb1⟩; obtain ⟨hcc, hcf⟩ := bcell hb1)
            go_quiet (fail)
            go_wp2
            go_roundw
            case rel => exact ⟨j + 1 + 1, by omega, by go_num, by repeat (first | exact Below.refl _ _ | assumption | apply Below.drew | apply below_drewN | (refine Below.alloc ?_ (by first | omega | (simp; omega)) _) | (refine Below.trans ?_ (Below.mono (by assumption) (by first | omega | (simp; omega))))), hn.out⟩
            case measure => simp [intOf]; omega
    · have hfin := Lib.hid (chkAt_end (l := l) (by rwa [show k = l.length from by omega] at hc))
      clear hc
      go_wp2
      go_ret
      exact ⟨ret_i64 hfin.out.symm, hb⟩
end Go.Proofs.YteaofninjbhiaaaDoor
