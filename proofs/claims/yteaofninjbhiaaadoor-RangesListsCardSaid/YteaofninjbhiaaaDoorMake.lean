/- Contracts of Make and Of, and of the reference's Ranges, Members and Set. -/
import Derived.Test.YteaofninjbhiaaaDoorRanges
namespace Go.Proofs.YteaofninjbhiaaaDoor
open Go.RowKit

set_option maxRecDepth 100000 in
set_option maxHeartbeats 2000000 in
theorem make_any (A : Option Addr) (n c : Nat) (l : RL) (w : World) (hl : Rs w A n l) (hn : n ≤ 1000000) :
    Calls Tryd.prog 33 #[.slice A n c] w fun e w' => ∃ r, e = .returned (.tuple #[r, .int .i64 (makeL l).2]) ∧ OutR 37 (makeL l).1 w r w' := by
  obtain ⟨rfl, _⟩ := id hl
  by_cases hmany : 256 < l.length
  · rw [makeL_many hmany]
    go_enter Tryd.func33, Tryd.ntmps33
    go_wp2
    go_ret2
    exact ⟨_, rfl, OutR.nil (Below.refl _ _)⟩
  · have hsm : l.length ≤ 256 := by omega
    have ha := bits_alloc w
    have hbel : Below w.heap.size w (w.alloc (.cells Tryd.zeroCells78 78)) := (Below.refl _ _).alloc (Nat.le_refl _) _
    go_enter Tryd.func33, Tryd.ntmps33
    go_wp2
    generalize w.alloc (.cells Tryd.zeroCells78 78) = w0 at *
    go_loopw [12] (fun i wr => ∃ k : Nat, k ≤ l.length ∧ i = .int .i64 k ∧ Bits wr w.heap.size 78 (fun c => inB (l.take k) c) ∧ Below w.heap.size w wr ∧ (l.take k).all (fun r => rightB r.1 r.2) = true) (fun i _ => l.length - (intOf i).toNat)
    case atStart => exact ⟨0, Nat.zero_le _, rfl, ha.congr (fun c _ => by simp [inB]), hbel, by simp⟩
    case round =>
      obtain ⟨k, hk, rfl, hbk, hb, hall⟩ := hrel
      have hsz := hb.size
      have hHall := Lib.hid hall
      clear hall ha hbel
      by_cases hlt : k < l.length
      · obtain ⟨b, o, rfl, hbl, hc1, hc2⟩ := (hl.below hb).at1 hlt
        cases hr : rightB l[k].1 l[k].2 with
        | false =>
          have hfin := Lib.hid (makeL_bad hsm k hlt hr)
          generalize l[k].1 = x at *
          generalize l[k].2 = y at *
          go_wp2_with (go_at_call 42; refine (right_any _ _ _).mono ?_; rintro e w1 ⟨rfl, hb1⟩)
          go_ret2
          rw [hfin.out]
          exact ⟨_, rfl, OutR.nil (by (repeat (first | exact Below.refl _ _ | assumption | apply Below.drew | apply below_drewN | (refine Below.alloc ?_ (by first | omega | (simp; omega) | simp) _) | (refine Below.setCell ?_ (by first | omega | (simp; omega) | simp) _) | (refine Below.trans ?_ (Below.mono (by assumption) (by first | omega | (simp; omega) | simp))))))⟩
        | true =>
          have hna := Lib.hid (all_take l (fun r => rightB r.1 r.2) k hlt hHall.out)
          have ht := Lib.hid (inB_take_succ l k hlt)
          have hr' := rightB_iff.1 hr
          generalize l[k].1 = x at *
          generalize l[k].2 = y at *
          go_wp2_with (go_at_call 42; refine (right_any _ _ _).mono ?_; rintro e w1 ⟨rfl, hb1⟩; obtain ⟨hcc, hcf⟩ := bcell hb1; have hz1 := hb1.size; simp at hz1; have hbits := (((hbk.alloc _).below hb1 (by simp; omega)).alloc (.cells #[.int .i64 x, .int .i64 y] 37)))
          refine (put_any w.heap.size true _ _ 1 1 [(x, y)] _ hbits (Rs.single _ x y _ _ rfl) (by omega) (by simp; omega)).mono ?_
          rintro e w2 ⟨rfl, hb2, hg2⟩
          have hbw : Below w.heap.size w w2 := Below.grown (w := w1.alloc (.cells #[.int .i64 x, .int .i64 y] 37)) (by (repeat (first | exact Below.refl _ _ | assumption | apply Below.drew | apply below_drewN | (refine Below.alloc ?_ (by first | omega | (simp; omega) | simp) _) | (refine Below.setCell ?_ (by first | omega | (simp; omega) | simp) _) | (refine Below.trans ?_ (Below.mono (by assumption) (by first | omega | (simp; omega) | simp)))))) hg2 (by simp; omega) (by simp)
          clear hcc hcf hbits hb1
          go_wp2
          go_roundw
          case rel => exact ⟨k + 1, by omega, by go_num, hb2.congr (fun c _ => by rw [ht.out]; simp [inB, Bool.or_comm]), hbw, by rw [hna.out]; exact hr⟩
          case measure => simp [intOf]; omega
      · obtain rfl : k = l.length := by omega
        rw [List.take_length] at hbk
        have hok := hHall.out
        rw [List.take_length] at hok
        have hfin := Lib.hid (makeL_ok hsm hok)
        have h0 := inB_zero (rightB_all hok)
        clear hok
        go_wp2_with (go_at_call 46; refine (ranges_any _ _ _ hbk h0).mono ?_; rintro e w1 ⟨r, rfl, ho⟩)
        go_ret2
        rw [hfin.out]
        exact ⟨_, rfl, ho.up hb⟩

theorem inB_self_no {c x : Int} (h : ¬ c = x) : inB [(x, x)] c = false := by
  rw [Bool.eq_false_iff]
  intro hh
  obtain ⟨r, hr, h1, h2⟩ := inB_iff.1 hh
  rw [List.mem_singleton] at hr
  subst hr
  exact h (Int.le_antisymm h2 h1)
set_option maxRecDepth 100000 in
set_option maxHeartbeats 2000000 in
theorem of_any (A : Option Addr) (n c : Nat) (l : List Int) (w : World) (hl : Is w A n l) (hn : n ≤ 1000000000) :
    Calls Tryd.prog 35 #[.slice A n c] w fun e w' => ∃ r, e = .returned (.tuple #[r, .int .i64 (ofL l).2]) ∧ OutR 37 (ofL l).1 w r w' := by
  obtain ⟨rfl, _⟩ := id hl
  by_cases hmany : 4096 < l.length
  · rw [ofL_many hmany]
    go_enter Tryd.func35, Tryd.ntmps35
    go_wp2
    go_ret2
    exact ⟨_, rfl, OutR.nil (Below.refl _ _)⟩
  · have hsm : l.length ≤ 4096 := by omega
    have ha := bits_alloc w
    have hbel : Below w.heap.size w (w.alloc (.cells Tryd.zeroCells78 78)) := (Below.refl _ _).alloc (Nat.le_refl _) _
    go_enter Tryd.func35, Tryd.ntmps35
    go_wp2
    generalize w.alloc (.cells Tryd.zeroCells78 78) = w0 at *
    go_loopw [13] (fun i wr => ∃ k : Nat, k ≤ l.length ∧ i = .int .i64 k ∧ Bits wr w.heap.size 78 (fun c => (l.take k).contains (c : Int)) ∧ Below w.heap.size w wr ∧ (l.take k).all chanB = true) (fun i _ => l.length - (intOf i).toNat)
    case atStart => exact ⟨0, Nat.zero_le _, rfl, ha.congr (fun c _ => by simp), hbel, by simp⟩
    case round =>
      obtain ⟨k, hk, rfl, hbk, hb, hall⟩ := hrel
      have hsz := hb.size
      have hHall := Lib.hid hall
      clear hall ha hbel
      by_cases hlt : k < l.length
      · obtain ⟨b, o, rfl, hbl, hc1⟩ := (hl.below hb).at1 hlt
        cases hr : rightB l[k] l[k] with
        | false =>
          have hfin := Lib.hid (ofL_bad hsm k hlt (by rw [rightB_not] at hr; simp [chanB]; omega))
          generalize l[k] = x at *
          go_wp2_with (go_at_call 42; refine (right_any _ _ _).mono ?_; rintro e w1 ⟨rfl, hb1⟩)
          go_ret2
          rw [hfin.out]
          exact ⟨_, rfl, OutR.nil (by (repeat (first | exact Below.refl _ _ | assumption | apply Below.drew | apply below_drewN | (refine Below.alloc ?_ (by first | omega | (simp; omega) | simp) _) | (refine Below.setCell ?_ (by first | omega | (simp; omega) | simp) _) | (refine Below.trans ?_ (Below.mono (by assumption) (by first | omega | (simp; omega) | simp))))))⟩
        | true =>
          have hr' := rightB_iff.1 hr
          have hna := Lib.hid ((all_take l chanB k hlt hHall.out).trans (by rw [chanB, decide_eq_true_eq]; exact ⟨hr'.1, hr'.2.2⟩))
          have ht := Lib.hid (contains_take l k hlt)
          generalize l[k] = x at *
          go_wp2_with (go_at_call 42; refine (right_any _ _ _).mono ?_; rintro e w1 ⟨rfl, hb1⟩; obtain ⟨hcc, hcf⟩ := bcell hb1; have hz1 := hb1.size; simp at hz1; have hbits := (((hbk.alloc _).below hb1 (by simp; omega)).alloc (.cells #[.int .i64 x, .int .i64 x] 37)))
          refine (put_any w.heap.size true _ _ 1 1 [(x, x)] _ hbits (Rs.single _ x x _ _ rfl) (by omega) (by simp; omega)).mono ?_
          rintro e w2 ⟨rfl, hb2, hg2⟩
          have hbw : Below w.heap.size w w2 := Below.grown (w := w1.alloc (.cells #[.int .i64 x, .int .i64 x] 37)) (by (repeat (first | exact Below.refl _ _ | assumption | apply Below.drew | apply below_drewN | (refine Below.alloc ?_ (by first | omega | (simp; omega) | simp) _) | (refine Below.setCell ?_ (by first | omega | (simp; omega) | simp) _) | (refine Below.trans ?_ (Below.mono (by assumption) (by first | omega | (simp; omega) | simp)))))) hg2 (by simp; omega) (by simp)
          clear hcc hcf hbits hb1
          go_wp2
          go_roundw
          case rel => exact ⟨k + 1, by omega, by go_num, hb2.congr (fun c _ => by
            rw [ht.out]
            by_cases hcx : (c : Int) = x
            · simp [inB, hcx]
            · rw [if_neg hcx, inB_self_no hcx]; simp), hbw, hna.out⟩
          case measure => simp [intOf]; omega
      · obtain rfl : k = l.length := by omega
        rw [List.take_length] at hbk
        have hok := hHall.out
        rw [List.take_length] at hok
        have hfin := Lib.hid (ofL_ok hsm hok)
        have h0 := contains_zero (chanB_all hok)
        clear hok
        go_wp2_with (go_at_call 46; refine (ranges_any _ _ _ hbk h0).mono ?_; rintro e w1 ⟨r, rfl, ho⟩)
        go_ret2
        rw [hfin.out]
        exact ⟨_, rfl, ho.up hb⟩
end Go.Proofs.YteaofninjbhiaaaDoor
