/- Contracts of the reference's Check, Both, Make and Of. -/
import Derived.Test.YteaofninjbhiaaaDoorRefSets
namespace Go.Proofs.YteaofninjbhiaaaDoor
open Go.RowKit

set_option maxHeartbeats 1000000 in
theorem refCheck_any (A : Option Addr) (n c : Nat) (l : RL) (w : World) (hl : Rs w A n l) (hn : n ≤ 1000000) :
    Calls Tryd.prog 31 #[.slice A n c] w fun e w' => e = .returned (.int .i64 (chk l)) ∧ Below w.heap.size w w' := by
  obtain ⟨rfl, _⟩ := id hl
  go_enter Tryd.func31, Tryd.ntmps31
  go_wp2
  go_loopw [3] (fun i wr => ∃ k : Nat, k ≤ l.length ∧ i = .int .i64 k ∧ Below w.heap.size w wr ∧ ChkAt l k) (fun i _ => l.length - (intOf i).toNat)
  case atStart => exact ⟨0, Nat.zero_le _, rfl, Below.refl _ _, chkAt_zero l⟩
  case round =>
    obtain ⟨k, hk, rfl, hb, hc⟩ := hrel
    have hsz := hb.size
    by_cases hlt : k < l.length
    · cases hr : rightB l[k].1 l[k].2 with
      | false =>
        obtain ⟨b, o, rfl, hbl, hc1, hc2⟩ := (hl.below hb).at1 hlt
        have hfin := Lib.hid (chkAt_bad hc hlt hr)
        clear hc
        generalize l[k].1 = x at *
        generalize l[k].2 = y at *
        go_wp2_with (go_at_call 59; refine (refRight_any _ _ _).mono ?_; rintro e w1 ⟨rfl, hb1⟩)
        go_ret
        exact ⟨ret_i64 hfin.out.symm, by repeat (first | exact Below.refl _ _ | assumption | apply Below.drew | (refine Below.alloc ?_ (by first | omega | (simp; omega)) _) | (refine Below.trans ?_ (Below.mono (by assumption) (by first | omega | (simp; omega)))))⟩
      | true =>
        rcases k with _ | j
        · obtain ⟨b, o, rfl, hbl, hc1, hc2⟩ := (hl.below hb).at1 hlt
          have hn := Lib.hid (chkAt_next hc hlt hr (by rw [rightB_iff] at hr; simp [endB]; omega))
          clear hc
          simp only [Nat.zero_mul, Nat.add_zero] at hc1 hc2
          generalize l[0].1 = x at *
          generalize l[0].2 = y at *
          go_wp2_with (go_at_call 59; refine (refRight_any _ _ _).mono ?_; rintro e w1 ⟨rfl, hb1⟩)
          go_quiet (fail)
          go_wp2
          go_roundw
          case rel => exact ⟨0 + 1, by omega, by go_num, by repeat (first | exact Below.refl _ _ | assumption | apply Below.drew | apply below_drewN | (refine Below.alloc ?_ (by first | omega | (simp; omega)) _) | (refine Below.trans ?_ (Below.mono (by assumption) (by first | omega | (simp; omega))))), hn.out⟩
          case measure => simp [intOf]; omega
        · obtain ⟨b, o, rfl, hbl, hc0, hc1, hc2⟩ := (hl.below hb).at2 hlt
          have he : endB l (j + 1) = (l[j]'(by omega)).2 := endB_succ (by omega)
          by_cases hord : l[j + 1].1 < (l[j]'(by omega)).2 + 2
          · have hfin := Lib.hid (chkAt_order hc hlt hr (by rw [he]; exact hord))
            have hbd := hc.2 (by omega)
            rw [he] at hbd
            clear hc he
            generalize l[j + 1].1 = x at *
            generalize l[j + 1].2 = y at *
            generalize (l[j]'(by omega)).2 = z at *
            go_wp2_with (go_at_call 59; refine (refRight_any _ _ _).mono ?_; rintro e w1 ⟨rfl, hb1⟩; obtain ⟨hcc, hcf⟩ := bcell hb1)
            go_quiet (fail)
            go_wp2
            go_ret
            exact ⟨ret_i64 hfin.out.symm, by repeat (first | exact Below.refl _ _ | assumption | apply Below.drew | apply below_drewN | (refine Below.alloc ?_ (by first | omega | (simp; omega)) _) | (refine Below.trans ?_ (Below.mono (by assumption) (by first | omega | (simp; omega)))))⟩
          · have hn := Lib.hid (chkAt_next hc hlt hr (by rw [he]; exact hord))
            have hbd := hc.2 (by omega)
            rw [he] at hbd
            clear hc he
            generalize l[j + 1].1 = x at *
            generalize l[j + 1].2 = y at *
            generalize (l[j]'(by omega)).2 = z at *
            go_wp2_with (go_at_call 59; refine (refRight_any _ _ _).mono ?_; rintro e w1 ⟨rfl, hb1⟩; obtain ⟨hcc, hcf⟩ := bcell hb1)
            go_quiet (fail)
            go_wp2
            go_roundw
            case rel => exact ⟨j + 1 + 1, by omega, by go_num, by repeat (first | exact Below.refl _ _ | assumption | apply Below.drew | apply below_drewN | (refine Below.alloc ?_ (by first | omega | (simp; omega)) _) | (refine Below.trans ?_ (Below.mono (by assumption) (by first | omega | (simp; omega))))), hn.out⟩
            case measure => simp [intOf]; omega
    · have hfin := Lib.hid (chkAt_end (l := l) (by rwa [show k = l.length from by omega] at hc))
      clear hc
      go_wp2
      go_ret
      exact ⟨ret_i64 hfin.out.symm, hb⟩

end Go.Proofs.YteaofninjbhiaaaDoor
