/- Contracts of combined at each function that is handed to it, and of Union, Minus and Common of the program. -/
import Derived.Test.YteaofninjbhiaaaDoorSame
import Derived.StillTailTactics
namespace Go.Proofs.YteaofninjbhiaaaDoor
open Go.RowKit

theorem Bits.grown {w w' : World} {b g : Nat} {t : TypeId} {m : Nat → Bool} (h : Bits w b t m) (hg : w.grownBy w' (some g)) (hne : b ≠ g) : Bits w' b t m := h.of_block (hg.block b h.lt (by simpa using hne))
theorem Bits.far {w : World} {b g : Nat} {t : TypeId} {m : Nat → Bool} (h : Bits w b t m) (hne : b ≠ g) (i : Nat) (v : Value) : Bits (w.setCell ⟨g, i, none⟩ v) b t m := World.rowIs.setOther h hne v
/-- what a combination of two sets returns -/
def combL (F : Bool → Bool → Bool) (a b : RL) : RL × Int := if chk a = 0 then (if chk b = 0 then (rangesOf (fun c => F (inB a c) (inB b c)), 0) else ([], chk b)) else ([], chk a)
theorem combL_a {F : Bool → Bool → Bool} {a b : RL} (h : ¬ chk a = 0) : combL F a b = ([], chk a) := if_neg h
theorem combL_b {F : Bool → Bool → Bool} {a b : RL} (h : chk a = 0) (h' : ¬ chk b = 0) : combL F a b = ([], chk b) := by rw [combL, if_pos h, if_neg h']
theorem combL_ok {F : Bool → Bool → Bool} {a b : RL} (h : chk a = 0) (h' : chk b = 0) : combL F a b = (rangesOf (fun c => F (inB a c) (inB b c)), 0) := by rw [combL, if_pos h, if_pos h']
theorem upto_succ (F : Nat → Bool) (k c : Nat) : (if c < k + 1 then F c else false) = if c = k then F k else if c < k then F c else false := by
  by_cases h : c = k
  · subst h; simp
  · rw [if_neg h]
    by_cases h1 : c < k
    · rw [if_pos h1, if_pos (by omega)]
    · rw [if_neg h1, if_neg (by omega)]

set_option maxHeartbeats 400000 in
theorem union_any (x y : Bool) (w : World) : Calls Tryd.prog 48 #[.bool x, .bool y] w fun e w' => e = .returned (.bool (or x y)) ∧ w' = w := by
  cases x <;> cases y
  all_goals
    go_enter Tryd.func48, Tryd.ntmps48
    go_wp2
    go_ret
    exact ⟨rfl, rfl⟩

set_option maxRecDepth 100000 in
set_option maxHeartbeats 4000000 in
theorem combined_union (A : Option Addr) (n c : Nat) (a : RL) (B : Option Addr) (n' c' : Nat) (b : RL) (w : World) (ha : Rs w A n a) (hb : Rs w B n' b) (hn : n ≤ 1000000) (hn' : n' ≤ 1000000) :
    Calls Tryd.prog 47 #[.slice A n c, .slice B n' c', .func (.func 48) #[] #[]] w fun e w' => ∃ r, e = .returned (.tuple #[r, .int .i64 (combL or a b).2]) ∧ OutR 37 (combL or a b).1 w r w' := by
  have hi0 : ∀ w, (Instr.index 113 (.agg #[.slice A n c, .slice B n' c']) (.int .i64 0)).run Tryd.prog w = .ok (.slice A n c) w := fun _ => by kernel_rfl
  have hi1 : ∀ w, (Instr.index 113 (.agg #[.slice A n c, .slice B n' c']) (.int .i64 1)).run Tryd.prog w = .ok (.slice B n' c') w := fun _ => by kernel_rfl
  go_enter Tryd.func47, Tryd.ntmps47
  go_wp2
  go_loopw [18] (fun i wr => ∃ k : Nat, k ≤ 2 ∧ i = .int .i64 k ∧ Below w.heap.size w wr ∧ (0 < k → chk a = 0) ∧ (1 < k → chk b = 0)) (fun i _ => 2 - (intOf i).toNat)
  case atStart => exact ⟨0, by omega, rfl, Below.refl _ _, by omega, by omega⟩
  case round =>
    obtain ⟨k, hk, rfl, hbw, hka, hkb⟩ := hrel
    have hsz := hbw.size
    have ha1 := ha.below hbw
    have hb1 := hb.below hbw
    have Ka := Lib.hid hka
    have Kb := Lib.hid hkb
    clear hka hkb
    obtain hk0 | hk1 | hk2 : k = 0 ∨ k = 1 ∨ k = 2 := by omega
    · subst hk0
      by_cases h0 : chk a = 0
      · have H0 := Lib.hid h0
        clear h0
        go_wp2_with (go_at_call 14; refine (check_any _ _ c a _ ha1 hn).mono ?_; rw [H0.out]; rintro e w1 ⟨rfl, hc1⟩)
        go_roundw
        case rel => exact ⟨1, by omega, rfl, by (repeat (first | exact Below.refl _ _ | assumption | apply Below.drew | apply below_drewN | (refine Below.alloc ?_ (by first | omega | (simp; omega) | simp) _) | (refine Below.setCell ?_ (by first | omega | (simp; omega) | simp) _) | (refine Below.trans ?_ (Below.mono (by assumption) (by first | omega | (simp; omega) | simp))))), fun _ => H0.out, by omega⟩
        case measure => simp [intOf]
      · have hfin := Lib.hid (combL_a (F := or) (b := b) h0)
        generalize hx : chk a = x at *
        have Hx := Lib.hid hx
        clear hx
        have h0' : (x != 0) = true := by simpa using h0
        clear h0
        go_wp2_with (go_at_call 14; refine (check_any _ _ c a _ ha1 hn).mono ?_; rw [Hx.out]; rintro e w1 ⟨rfl, hc1⟩)
        go_ret2
        rw [hfin.out]
        exact ⟨_, rfl, OutR.nil (by (repeat (first | exact Below.refl _ _ | assumption | apply Below.drew | apply below_drewN | (refine Below.alloc ?_ (by first | omega | (simp; omega) | simp) _) | (refine Below.setCell ?_ (by first | omega | (simp; omega) | simp) _) | (refine Below.trans ?_ (Below.mono (by assumption) (by first | omega | (simp; omega) | simp))))))⟩
    · subst hk1
      by_cases h0 : chk b = 0
      · have H0 := Lib.hid h0
        clear h0
        go_wp2_with (go_at_call 14; refine (check_any _ _ c' b _ hb1 hn').mono ?_; rw [H0.out]; rintro e w1 ⟨rfl, hc1⟩)
        go_roundw
        case rel => exact ⟨2, by omega, rfl, by (repeat (first | exact Below.refl _ _ | assumption | apply Below.drew | apply below_drewN | (refine Below.alloc ?_ (by first | omega | (simp; omega) | simp) _) | (refine Below.setCell ?_ (by first | omega | (simp; omega) | simp) _) | (refine Below.trans ?_ (Below.mono (by assumption) (by first | omega | (simp; omega) | simp))))), fun _ => Ka.out (by omega), fun _ => H0.out⟩
        case measure => simp [intOf]
      · have hfin := Lib.hid (combL_b (F := or) (Ka.out (by omega)) h0)
        generalize hx : chk b = x at *
        have Hx := Lib.hid hx
        clear hx
        have h0' : (x != 0) = true := by simpa using h0
        clear h0
        go_wp2_with (go_at_call 14; refine (check_any _ _ c' b _ hb1 hn').mono ?_; rw [Hx.out]; rintro e w1 ⟨rfl, hc1⟩)
        go_ret2
        rw [hfin.out]
        exact ⟨_, rfl, OutR.nil (by (repeat (first | exact Below.refl _ _ | assumption | apply Below.drew | apply below_drewN | (refine Below.alloc ?_ (by first | omega | (simp; omega) | simp) _) | (refine Below.setCell ?_ (by first | omega | (simp; omega) | simp) _) | (refine Below.trans ?_ (Below.mono (by assumption) (by first | omega | (simp; omega) | simp))))))⟩
    · subst hk2
      have hra := Lib.hid (chk_ok (Ka.out (by omega)))
      have hrb := Lib.hid (chk_ok (Kb.out (by omega)))
      have hfin := Lib.hid (combL_ok (F := or) (Ka.out (by omega)) (Kb.out (by omega)))
      clear hi0 hi1 Ka Kb
      obtain ⟨wo, rfl⟩ : ∃ wo : World, wo = wr := ⟨_, rfl⟩
      obtain ⟨w3, hw3⟩ : ∃ w3, ((wo.alloc (.cells Tryd.zeroCells78 78)).alloc (.cells Tryd.zeroCells78 78)).alloc (.cells Tryd.zeroCells78 78) = w3 := ⟨_, rfl⟩
      have hX : Bits w3 wo.heap.size 78 (fun _ => false) := by rw [← hw3]; exact ((bits_alloc wo).alloc _).alloc _
      have hY : Bits w3 (wo.heap.size + 1) 78 (fun _ => false) := by rw [← hw3]; have := (bits_alloc (wo.alloc (.cells Tryd.zeroCells78 78))).alloc (.cells Tryd.zeroCells78 78); rwa [World.size_alloc] at this
      have hO : Bits w3 (wo.heap.size + 2) 78 (fun _ => false) := by rw [← hw3]; have := bits_alloc ((wo.alloc (.cells Tryd.zeroCells78 78)).alloc (.cells Tryd.zeroCells78 78)); rwa [World.size_alloc, World.size_alloc] at this
      have hbel3 : Below wo.heap.size wo w3 := by rw [← hw3]; (repeat (first | exact Below.refl _ _ | assumption | apply Below.drew | apply below_drewN | (refine Below.alloc ?_ (by first | omega | (simp; omega) | simp) _) | (refine Below.setCell ?_ (by first | omega | (simp; omega) | simp) _) | (refine Below.trans ?_ (Below.mono (by assumption) (by first | omega | (simp; omega) | simp)))))
      have Hw3 := Lib.hid hw3
      clear hw3
      go_wp2_with fail
      rw [Hw3.out]
      clear Hw3
      refine (put_any _ true _ _ _ c a _ hX (ha1.below hbel3) hn hra.out).mono ?_
      rintro e w4 ⟨rfl, hX4, hg4⟩
      have hbel4 : Below wo.heap.size wo w4 := hbel3.grown hg4 hbel3.size (by simp)
      have hY4 := hY.grown hg4 (by omega)
      have hO4 := hO.grown hg4 (by omega)
      clear hX hY hO hg4
      go_wp2_with fail
      refine (put_any _ true _ _ _ c' b _ hY4 (hb1.below hbel4) hn' hrb.out).mono ?_
      rintro e w5 ⟨rfl, hY5, hg5⟩
      have hbel5 : Below wo.heap.size wo w5 := hbel4.grown hg5 hbel4.size (by simp)
      have hX5 := hX4.grown hg5 (by omega)
      have hO5 := hO4.grown hg5 (by omega)
      have hX6 : Bits w5 wo.heap.size 78 (fun c => inB a c) := hX5.congr (fun c _ => by simp)
      have hY6 : Bits w5 (wo.heap.size + 1) 78 (fun c => inB b c) := hY5.congr (fun c _ => by simp)
      clear hX4 hY4 hO4 hg5 hX5 hY5
      go_wp2_with fail
      go_loopw [31] (fun i wr => ∃ k : Nat, k ≤ 1001 ∧ i = .int .i64 k ∧ Below wo.heap.size wo wr ∧ Bits wr wo.heap.size 78 (fun c => inB a c) ∧ Bits wr (wo.heap.size + 1) 78 (fun c => inB b c) ∧
          Bits wr (wo.heap.size + 2) 78 (fun c => if c < k then or (inB a c) (inB b c) else false)) (fun i _ => 1001 - (intOf i).toNat)
      case atStart => exact ⟨0, by omega, rfl, hbel5, hX6, hY6, hO5.congr (fun c _ => by simp)⟩
      case round =>
        clear hX6 hY6 hO5
        obtain ⟨k, hk, rfl, hbr, hX, hY, hO⟩ := hrel
        by_cases hlt : k < 1001
        · have hx := hX.cell (i := k) hlt
          have hy := hY.cell (i := k) hlt
          have ho := hO.cell (i := k) hlt
          have hof := hO.frozen k
          simp only [Nat.lt_irrefl, if_false] at ho
          have hstep := Lib.hid (fun c => upto_succ (fun c : Nat => or (inB a c) (inB b c)) k c)
          generalize hu : inB a (k : Int) = u at *
          generalize hv : inB b (k : Int) = v at *
          have Hu := Lib.hid hu
          have Hv := Lib.hid hv
          clear hu hv
          go_wp2_with fail
          refine wp_region_still_tail 10 (by kernel_rfl) (by kernel_rfl) ?_
          simp only [List.take_succ_cons, List.take_zero, List.drop_succ_cons, List.drop_zero]
          repeat still_step
          still_call (union_any _ _ _)
          repeat still_step
          refine wpStill_nil ?_
          change wpList _ _ _ _ _ wr.drew
          have ho' : wr.drew.cell? ⟨wo.heap.size + 2, k, none⟩ = some (.bool false) := ho
          have hof' : wr.drew.frozen? ⟨wo.heap.size + 2, k, none⟩ = false := hof
          clear ho hof hx hy
          go_wp2
          go_roundw
          case rel => exact ⟨k + 1, by omega, by go_num, by (repeat (first | exact Below.refl _ _ | assumption | apply Below.drew | apply below_drewN | (refine Below.alloc ?_ (by first | omega | (simp; omega) | simp) _) | (refine Below.setCell ?_ (by first | omega | (simp; omega) | simp) _) | (refine Below.trans ?_ (Below.mono (by assumption) (by first | omega | (simp; omega) | simp))))), hX.far (by omega) k _, hY.far (by omega) k _, hO.put k _ hstep.out⟩
          case measure => simp [intOf]; omega
        · obtain rfl : k = 1001 := by omega
          have hO1 : Bits wr (wo.heap.size + 2) 78 (fun c => or (inB a c) (inB b c)) := hO.congr (fun c hc => by rw [if_pos hc])
          have h0 : or (inB a ((0 : Nat) : Int)) (inB b ((0 : Nat) : Int)) = false := by rw [inB_zero hra.out, inB_zero hrb.out]; rfl
          clear hX hY hO
          go_wp2_with (go_at_call 46; refine (ranges_any _ _ _ hO1 h0).mono ?_; rintro e w6 ⟨r, rfl, ho⟩)
          go_ret2
          rw [hfin.out]
          exact ⟨_, rfl, ho.up (hbw.trans (hbr.mono hsz))⟩

set_option maxHeartbeats 400000 in
theorem unionP_any (A : Option Addr) (n c : Nat) (a : RL) (B : Option Addr) (n' c' : Nat) (b : RL) (w : World) (ha : Rs w A n a) (hb : Rs w B n' b) (hn : n ≤ 1000000) (hn' : n' ≤ 1000000) :
    Calls Tryd.prog 17 #[.slice A n c, .slice B n' c'] w fun e w' => ∃ r, e = .returned (.tuple #[r, .int .i64 (combL or a b).2]) ∧ OutR 37 (combL or a b).1 w r w' := by
  go_enter Tryd.func17, Tryd.ntmps17
  go_wp2_with fail
  refine (combined_union _ _ c a _ _ c' b _ ha hb hn hn').mono ?_
  rintro e w1 ⟨r, rfl, ho⟩
  obtain ⟨A1, c1, rfl, ho1, hb1⟩ := ho
  generalize hL : combL or a b = L at *
  have HL := Lib.hid hL
  clear hL
  go_wp2_with fail
  go_ret2
  rw [HL.out]
  exact ⟨_, rfl, A1, c1, rfl, ho1, hb1⟩

set_option maxHeartbeats 400000 in
theorem minus_any (x y : Bool) (w : World) : Calls Tryd.prog 51 #[.bool x, .bool y] w fun e w' => e = .returned (.bool ((fun x y => x && !y) x y)) ∧ w' = w := by
  cases x <;> cases y
  all_goals
    go_enter Tryd.func51, Tryd.ntmps51
    go_wp2
    go_ret
    exact ⟨rfl, rfl⟩

set_option maxRecDepth 100000 in
set_option maxHeartbeats 4000000 in
theorem combined_minus (A : Option Addr) (n c : Nat) (a : RL) (B : Option Addr) (n' c' : Nat) (b : RL) (w : World) (ha : Rs w A n a) (hb : Rs w B n' b) (hn : n ≤ 1000000) (hn' : n' ≤ 1000000) :
    Calls Tryd.prog 47 #[.slice A n c, .slice B n' c', .func (.func 51) #[] #[]] w fun e w' => ∃ r, e = .returned (.tuple #[r, .int .i64 (combL (fun x y => x && !y) a b).2]) ∧ OutR 37 (combL (fun x y => x && !y) a b).1 w r w' := by
  have hi0 : ∀ w, (Instr.index 113 (.agg #[.slice A n c, .slice B n' c']) (.int .i64 0)).run Tryd.prog w = .ok (.slice A n c) w := fun _ => by kernel_rfl
  have hi1 : ∀ w, (Instr.index 113 (.agg #[.slice A n c, .slice B n' c']) (.int .i64 1)).run Tryd.prog w = .ok (.slice B n' c') w := fun _ => by kernel_rfl
  go_enter Tryd.func47, Tryd.ntmps47
  go_wp2
  go_loopw [18] (fun i wr => ∃ k : Nat, k ≤ 2 ∧ i = .int .i64 k ∧ Below w.heap.size w wr ∧ (0 < k → chk a = 0) ∧ (1 < k → chk b = 0)) (fun i _ => 2 - (intOf i).toNat)
  case atStart => exact ⟨0, by omega, rfl, Below.refl _ _, by omega, by omega⟩
  case round =>
    obtain ⟨k, hk, rfl, hbw, hka, hkb⟩ := hrel
    have hsz := hbw.size
    have ha1 := ha.below hbw
    have hb1 := hb.below hbw
    have Ka := Lib.hid hka
    have Kb := Lib.hid hkb
    clear hka hkb
    obtain hk0 | hk1 | hk2 : k = 0 ∨ k = 1 ∨ k = 2 := by omega
    · subst hk0
      by_cases h0 : chk a = 0
      · have H0 := Lib.hid h0
        clear h0
        go_wp2_with (go_at_call 14; refine (check_any _ _ c a _ ha1 hn).mono ?_; rw [H0.out]; rintro e w1 ⟨rfl, hc1⟩)
        go_roundw
        case rel => exact ⟨1, by omega, rfl, by (repeat (first | exact Below.refl _ _ | assumption | apply Below.drew | apply below_drewN | (refine Below.alloc ?_ (by first | omega | (simp; omega) | simp) _) | (refine Below.setCell ?_ (by first | omega | (simp; omega) | simp) _) | (refine Below.trans ?_ (Below.mono (by assumption) (by first | omega | (simp; omega) | simp))))), fun _ => H0.out, by omega⟩
        case measure => simp [intOf]
      · have hfin := Lib.hid (combL_a (F := (fun x y => x && !y)) (b := b) h0)
        generalize hx : chk a = x at *
        have Hx := Lib.hid hx
        clear hx
        have h0' : (x != 0) = true := by simpa using h0
        clear h0
        go_wp2_with (go_at_call 14; refine (check_any _ _ c a _ ha1 hn).mono ?_; rw [Hx.out]; rintro e w1 ⟨rfl, hc1⟩)
        go_ret2
        rw [hfin.out]
        exact ⟨_, rfl, OutR.nil (by (repeat (first | exact Below.refl _ _ | assumption | apply Below.drew | apply below_drewN | (refine Below.alloc ?_ (by first | omega | (simp; omega) | simp) _) | (refine Below.setCell ?_ (by first | omega | (simp; omega) | simp) _) | (refine Below.trans ?_ (Below.mono (by assumption) (by first | omega | (simp; omega) | simp))))))⟩
    · subst hk1
      by_cases h0 : chk b = 0
      · have H0 := Lib.hid h0
        clear h0
        go_wp2_with (go_at_call 14; refine (check_any _ _ c' b _ hb1 hn').mono ?_; rw [H0.out]; rintro e w1 ⟨rfl, hc1⟩)
        go_roundw
        case rel => exact ⟨2, by omega, rfl, by (repeat (first | exact Below.refl _ _ | assumption | apply Below.drew | apply below_drewN | (refine Below.alloc ?_ (by first | omega | (simp; omega) | simp) _) | (refine Below.setCell ?_ (by first | omega | (simp; omega) | simp) _) | (refine Below.trans ?_ (Below.mono (by assumption) (by first | omega | (simp; omega) | simp))))), fun _ => Ka.out (by omega), fun _ => H0.out⟩
        case measure => simp [intOf]
      · have hfin := Lib.hid (combL_b (F := (fun x y => x && !y)) (Ka.out (by omega)) h0)
        generalize hx : chk b = x at *
        have Hx := Lib.hid hx
        clear hx
        have h0' : (x != 0) = true := by simpa using h0
        clear h0
        go_wp2_with (go_at_call 14; refine (check_any _ _ c' b _ hb1 hn').mono ?_; rw [Hx.out]; rintro e w1 ⟨rfl, hc1⟩)
        go_ret2
        rw [hfin.out]
        exact ⟨_, rfl, OutR.nil (by (repeat (first | exact Below.refl _ _ | assumption | apply Below.drew | apply below_drewN | (refine Below.alloc ?_ (by first | omega | (simp; omega) | simp) _) | (refine Below.setCell ?_ (by first | omega | (simp; omega) | simp) _) | (refine Below.trans ?_ (Below.mono (by assumption) (by first | omega | (simp; omega) | simp))))))⟩
    · subst hk2
      have hra := Lib.hid (chk_ok (Ka.out (by omega)))
      have hrb := Lib.hid (chk_ok (Kb.out (by omega)))
      have hfin := Lib.hid (combL_ok (F := (fun x y => x && !y)) (Ka.out (by omega)) (Kb.out (by omega)))
      clear hi0 hi1 Ka Kb
      obtain ⟨wo, rfl⟩ : ∃ wo : World, wo = wr := ⟨_, rfl⟩
      obtain ⟨w3, hw3⟩ : ∃ w3, ((wo.alloc (.cells Tryd.zeroCells78 78)).alloc (.cells Tryd.zeroCells78 78)).alloc (.cells Tryd.zeroCells78 78) = w3 := ⟨_, rfl⟩
      have hX : Bits w3 wo.heap.size 78 (fun _ => false) := by rw [← hw3]; exact ((bits_alloc wo).alloc _).alloc _
      have hY : Bits w3 (wo.heap.size + 1) 78 (fun _ => false) := by rw [← hw3]; have := (bits_alloc (wo.alloc (.cells Tryd.zeroCells78 78))).alloc (.cells Tryd.zeroCells78 78); rwa [World.size_alloc] at this
      have hO : Bits w3 (wo.heap.size + 2) 78 (fun _ => false) := by rw [← hw3]; have := bits_alloc ((wo.alloc (.cells Tryd.zeroCells78 78)).alloc (.cells Tryd.zeroCells78 78)); rwa [World.size_alloc, World.size_alloc] at this
      have hbel3 : Below wo.heap.size wo w3 := by rw [← hw3]; (repeat (first | exact Below.refl _ _ | assumption | apply Below.drew | apply below_drewN | (refine Below.alloc ?_ (by first | omega | (simp; omega) | simp) _) | (refine Below.setCell ?_ (by first | omega | (simp; omega) | simp) _) | (refine Below.trans ?_ (Below.mono (by assumption) (by first | omega | (simp; omega) | simp)))))
      have Hw3 := Lib.hid hw3
      clear hw3
      go_wp2_with fail
      rw [Hw3.out]
      clear Hw3
      refine (put_any _ true _ _ _ c a _ hX (ha1.below hbel3) hn hra.out).mono ?_
      rintro e w4 ⟨rfl, hX4, hg4⟩
      have hbel4 : Below wo.heap.size wo w4 := hbel3.grown hg4 hbel3.size (by simp)
      have hY4 := hY.grown hg4 (by omega)
      have hO4 := hO.grown hg4 (by omega)
      clear hX hY hO hg4
      go_wp2_with fail
      refine (put_any _ true _ _ _ c' b _ hY4 (hb1.below hbel4) hn' hrb.out).mono ?_
      rintro e w5 ⟨rfl, hY5, hg5⟩
      have hbel5 : Below wo.heap.size wo w5 := hbel4.grown hg5 hbel4.size (by simp)
      have hX5 := hX4.grown hg5 (by omega)
      have hO5 := hO4.grown hg5 (by omega)
      have hX6 : Bits w5 wo.heap.size 78 (fun c => inB a c) := hX5.congr (fun c _ => by simp)
      have hY6 : Bits w5 (wo.heap.size + 1) 78 (fun c => inB b c) := hY5.congr (fun c _ => by simp)
      clear hX4 hY4 hO4 hg5 hX5 hY5
      go_wp2_with fail
      go_loopw [31] (fun i wr => ∃ k : Nat, k ≤ 1001 ∧ i = .int .i64 k ∧ Below wo.heap.size wo wr ∧ Bits wr wo.heap.size 78 (fun c => inB a c) ∧ Bits wr (wo.heap.size + 1) 78 (fun c => inB b c) ∧
          Bits wr (wo.heap.size + 2) 78 (fun c => if c < k then (fun x y => x && !y) (inB a c) (inB b c) else false)) (fun i _ => 1001 - (intOf i).toNat)
      case atStart => exact ⟨0, by omega, rfl, hbel5, hX6, hY6, hO5.congr (fun c _ => by simp)⟩
      case round =>
        clear hX6 hY6 hO5
        obtain ⟨k, hk, rfl, hbr, hX, hY, hO⟩ := hrel
        by_cases hlt : k < 1001
        · have hx := hX.cell (i := k) hlt
          have hy := hY.cell (i := k) hlt
          have ho := hO.cell (i := k) hlt
          have hof := hO.frozen k
          simp only [Nat.lt_irrefl, if_false] at ho
          have hstep := Lib.hid (fun c => upto_succ (fun c : Nat => (fun x y => x && !y) (inB a c) (inB b c)) k c)
          generalize hu : inB a (k : Int) = u at *
          generalize hv : inB b (k : Int) = v at *
          have Hu := Lib.hid hu
          have Hv := Lib.hid hv
          clear hu hv
          go_wp2_with fail
          refine wp_region_still_tail 10 (by kernel_rfl) (by kernel_rfl) ?_
          simp only [List.take_succ_cons, List.take_zero, List.drop_succ_cons, List.drop_zero]
          repeat still_step
          still_call (minus_any _ _ _)
          repeat still_step
          refine wpStill_nil ?_
          change wpList _ _ _ _ _ wr.drew
          have ho' : wr.drew.cell? ⟨wo.heap.size + 2, k, none⟩ = some (.bool false) := ho
          have hof' : wr.drew.frozen? ⟨wo.heap.size + 2, k, none⟩ = false := hof
          clear ho hof hx hy
          go_wp2
          go_roundw
          case rel => exact ⟨k + 1, by omega, by go_num, by (repeat (first | exact Below.refl _ _ | assumption | apply Below.drew | apply below_drewN | (refine Below.alloc ?_ (by first | omega | (simp; omega) | simp) _) | (refine Below.setCell ?_ (by first | omega | (simp; omega) | simp) _) | (refine Below.trans ?_ (Below.mono (by assumption) (by first | omega | (simp; omega) | simp))))), hX.far (by omega) k _, hY.far (by omega) k _, hO.put k _ hstep.out⟩
          case measure => simp [intOf]; omega
        · obtain rfl : k = 1001 := by omega
          have hO1 : Bits wr (wo.heap.size + 2) 78 (fun c => (fun x y => x && !y) (inB a c) (inB b c)) := hO.congr (fun c hc => by rw [if_pos hc])
          have h0 : (fun x y => x && !y) (inB a ((0 : Nat) : Int)) (inB b ((0 : Nat) : Int)) = false := by rw [inB_zero hra.out, inB_zero hrb.out]; rfl
          clear hX hY hO
          go_wp2_with (go_at_call 46; refine (ranges_any _ _ _ hO1 h0).mono ?_; rintro e w6 ⟨r, rfl, ho⟩)
          go_ret2
          rw [hfin.out]
          exact ⟨_, rfl, ho.up (hbw.trans (hbr.mono hsz))⟩

set_option maxHeartbeats 400000 in
theorem minusP_any (A : Option Addr) (n c : Nat) (a : RL) (B : Option Addr) (n' c' : Nat) (b : RL) (w : World) (ha : Rs w A n a) (hb : Rs w B n' b) (hn : n ≤ 1000000) (hn' : n' ≤ 1000000) :
    Calls Tryd.prog 19 #[.slice A n c, .slice B n' c'] w fun e w' => ∃ r, e = .returned (.tuple #[r, .int .i64 (combL (fun x y => x && !y) a b).2]) ∧ OutR 37 (combL (fun x y => x && !y) a b).1 w r w' := by
  go_enter Tryd.func19, Tryd.ntmps19
  go_wp2_with fail
  refine (combined_minus _ _ c a _ _ c' b _ ha hb hn hn').mono ?_
  rintro e w1 ⟨r, rfl, ho⟩
  obtain ⟨A1, c1, rfl, ho1, hb1⟩ := ho
  generalize hL : combL (fun x y => x && !y) a b = L at *
  have HL := Lib.hid hL
  clear hL
  go_wp2_with fail
  go_ret2
  rw [HL.out]
  exact ⟨_, rfl, A1, c1, rfl, ho1, hb1⟩

set_option maxHeartbeats 400000 in
theorem common_any (x y : Bool) (w : World) : Calls Tryd.prog 53 #[.bool x, .bool y] w fun e w' => e = .returned (.bool (and x y)) ∧ w' = w := by
  cases x <;> cases y
  all_goals
    go_enter Tryd.func53, Tryd.ntmps53
    go_wp2
    go_ret
    exact ⟨rfl, rfl⟩

set_option maxRecDepth 100000 in
set_option maxHeartbeats 4000000 in
theorem combined_common (A : Option Addr) (n c : Nat) (a : RL) (B : Option Addr) (n' c' : Nat) (b : RL) (w : World) (ha : Rs w A n a) (hb : Rs w B n' b) (hn : n ≤ 1000000) (hn' : n' ≤ 1000000) :
    Calls Tryd.prog 47 #[.slice A n c, .slice B n' c', .func (.func 53) #[] #[]] w fun e w' => ∃ r, e = .returned (.tuple #[r, .int .i64 (combL and a b).2]) ∧ OutR 37 (combL and a b).1 w r w' := by
  have hi0 : ∀ w, (Instr.index 113 (.agg #[.slice A n c, .slice B n' c']) (.int .i64 0)).run Tryd.prog w = .ok (.slice A n c) w := fun _ => by kernel_rfl
  have hi1 : ∀ w, (Instr.index 113 (.agg #[.slice A n c, .slice B n' c']) (.int .i64 1)).run Tryd.prog w = .ok (.slice B n' c') w := fun _ => by kernel_rfl
  go_enter Tryd.func47, Tryd.ntmps47
  go_wp2
  go_loopw [18] (fun i wr => ∃ k : Nat, k ≤ 2 ∧ i = .int .i64 k ∧ Below w.heap.size w wr ∧ (0 < k → chk a = 0) ∧ (1 < k → chk b = 0)) (fun i _ => 2 - (intOf i).toNat)
  case atStart => exact ⟨0, by omega, rfl, Below.refl _ _, by omega, by omega⟩
  case round =>
    obtain ⟨k, hk, rfl, hbw, hka, hkb⟩ := hrel
    have hsz := hbw.size
    have ha1 := ha.below hbw
    have hb1 := hb.below hbw
    have Ka := Lib.hid hka
    have Kb := Lib.hid hkb
    clear hka hkb
    obtain hk0 | hk1 | hk2 : k = 0 ∨ k = 1 ∨ k = 2 := by omega
    · subst hk0
      by_cases h0 : chk a = 0
      · have H0 := Lib.hid h0
        clear h0
        go_wp2_with (go_at_call 14; refine (check_any _ _ c a _ ha1 hn).mono ?_; rw [H0.out]; rintro e w1 ⟨rfl, hc1⟩)
        go_roundw
        case rel => exact ⟨1, by omega, rfl, by (repeat (first | exact Below.refl _ _ | assumption | apply Below.drew | apply below_drewN | (refine Below.alloc ?_ (by first | omega | (simp; omega) | simp) _) | (refine Below.setCell ?_ (by first | omega | (simp; omega) | simp) _) | (refine Below.trans ?_ (Below.mono (by assumption) (by first | omega | (simp; omega) | simp))))), fun _ => H0.out, by omega⟩
        case measure => simp [intOf]
      · have hfin := Lib.hid (combL_a (F := and) (b := b) h0)
        generalize hx : chk a = x at *
        have Hx := Lib.hid hx
        clear hx
        have h0' : (x != 0) = true := by simpa using h0
        clear h0
        go_wp2_with (go_at_call 14; refine (check_any _ _ c a _ ha1 hn).mono ?_; rw [Hx.out]; rintro e w1 ⟨rfl, hc1⟩)
        go_ret2
        rw [hfin.out]
        exact ⟨_, rfl, OutR.nil (by (repeat (first | exact Below.refl _ _ | assumption | apply Below.drew | apply below_drewN | (refine Below.alloc ?_ (by first | omega | (simp; omega) | simp) _) | (refine Below.setCell ?_ (by first | omega | (simp; omega) | simp) _) | (refine Below.trans ?_ (Below.mono (by assumption) (by first | omega | (simp; omega) | simp))))))⟩
    · subst hk1
      by_cases h0 : chk b = 0
      · have H0 := Lib.hid h0
        clear h0
        go_wp2_with (go_at_call 14; refine (check_any _ _ c' b _ hb1 hn').mono ?_; rw [H0.out]; rintro e w1 ⟨rfl, hc1⟩)
        go_roundw
        case rel => exact ⟨2, by omega, rfl, by (repeat (first | exact Below.refl _ _ | assumption | apply Below.drew | apply below_drewN | (refine Below.alloc ?_ (by first | omega | (simp; omega) | simp) _) | (refine Below.setCell ?_ (by first | omega | (simp; omega) | simp) _) | (refine Below.trans ?_ (Below.mono (by assumption) (by first | omega | (simp; omega) | simp))))), fun _ => Ka.out (by omega), fun _ => H0.out⟩
        case measure => simp [intOf]
      · have hfin := Lib.hid (combL_b (F := and) (Ka.out (by omega)) h0)
        generalize hx : chk b = x at *
        have Hx := Lib.hid hx
        clear hx
        have h0' : (x != 0) = true := by simpa using h0
        clear h0
        go_wp2_with (go_at_call 14; refine (check_any _ _ c' b _ hb1 hn').mono ?_; rw [Hx.out]; rintro e w1 ⟨rfl, hc1⟩)
        go_ret2
        rw [hfin.out]
        exact ⟨_, rfl, OutR.nil (by (repeat (first | exact Below.refl _ _ | assumption | apply Below.drew | apply below_drewN | (refine Below.alloc ?_ (by first | omega | (simp; omega) | simp) _) | (refine Below.setCell ?_ (by first | omega | (simp; omega) | simp) _) | (refine Below.trans ?_ (Below.mono (by assumption) (by first | omega | (simp; omega) | simp))))))⟩
    · subst hk2
      have hra := Lib.hid (chk_ok (Ka.out (by omega)))
      have hrb := Lib.hid (chk_ok (Kb.out (by omega)))
      have hfin := Lib.hid (combL_ok (F := and) (Ka.out (by omega)) (Kb.out (by omega)))
      clear hi0 hi1 Ka Kb
      obtain ⟨wo, rfl⟩ : ∃ wo : World, wo = wr := ⟨_, rfl⟩
      obtain ⟨w3, hw3⟩ : ∃ w3, ((wo.alloc (.cells Tryd.zeroCells78 78)).alloc (.cells Tryd.zeroCells78 78)).alloc (.cells Tryd.zeroCells78 78) = w3 := ⟨_, rfl⟩
      have hX : Bits w3 wo.heap.size 78 (fun _ => false) := by rw [← hw3]; exact ((bits_alloc wo).alloc _).alloc _
      have hY : Bits w3 (wo.heap.size + 1) 78 (fun _ => false) := by rw [← hw3]; have := (bits_alloc (wo.alloc (.cells Tryd.zeroCells78 78))).alloc (.cells Tryd.zeroCells78 78); rwa [World.size_alloc] at this
      have hO : Bits w3 (wo.heap.size + 2) 78 (fun _ => false) := by rw [← hw3]; have := bits_alloc ((wo.alloc (.cells Tryd.zeroCells78 78)).alloc (.cells Tryd.zeroCells78 78)); rwa [World.size_alloc, World.size_alloc] at this
      have hbel3 : Below wo.heap.size wo w3 := by rw [← hw3]; (repeat (first | exact Below.refl _ _ | assumption | apply Below.drew | apply below_drewN | (refine Below.alloc ?_ (by first | omega | (simp; omega) | simp) _) | (refine Below.setCell ?_ (by first | omega | (simp; omega) | simp) _) | (refine Below.trans ?_ (Below.mono (by assumption) (by first | omega | (simp; omega) | simp)))))
      have Hw3 := Lib.hid hw3
      clear hw3
      go_wp2_with fail
      rw [Hw3.out]
      clear Hw3
      refine (put_any _ true _ _ _ c a _ hX (ha1.below hbel3) hn hra.out).mono ?_
      rintro e w4 ⟨rfl, hX4, hg4⟩
      have hbel4 : Below wo.heap.size wo w4 := hbel3.grown hg4 hbel3.size (by simp)
      have hY4 := hY.grown hg4 (by omega)
      have hO4 := hO.grown hg4 (by omega)
      clear hX hY hO hg4
      go_wp2_with fail
      refine (put_any _ true _ _ _ c' b _ hY4 (hb1.below hbel4) hn' hrb.out).mono ?_
      rintro e w5 ⟨rfl, hY5, hg5⟩
      have hbel5 : Below wo.heap.size wo w5 := hbel4.grown hg5 hbel4.size (by simp)
      have hX5 := hX4.grown hg5 (by omega)
      have hO5 := hO4.grown hg5 (by omega)
      have hX6 : Bits w5 wo.heap.size 78 (fun c => inB a c) := hX5.congr (fun c _ => by simp)
      have hY6 : Bits w5 (wo.heap.size + 1) 78 (fun c => inB b c) := hY5.congr (fun c _ => by simp)
      clear hX4 hY4 hO4 hg5 hX5 hY5
      go_wp2_with fail
      go_loopw [31] (fun i wr => ∃ k : Nat, k ≤ 1001 ∧ i = .int .i64 k ∧ Below wo.heap.size wo wr ∧ Bits wr wo.heap.size 78 (fun c => inB a c) ∧ Bits wr (wo.heap.size + 1) 78 (fun c => inB b c) ∧
          Bits wr (wo.heap.size + 2) 78 (fun c => if c < k then and (inB a c) (inB b c) else false)) (fun i _ => 1001 - (intOf i).toNat)
      case atStart => exact ⟨0, by omega, rfl, hbel5, hX6, hY6, hO5.congr (fun c _ => by simp)⟩
      case round =>
        clear hX6 hY6 hO5
        obtain ⟨k, hk, rfl, hbr, hX, hY, hO⟩ := hrel
        by_cases hlt : k < 1001
        · have hx := hX.cell (i := k) hlt
          have hy := hY.cell (i := k) hlt
          have ho := hO.cell (i := k) hlt
          have hof := hO.frozen k
          simp only [Nat.lt_irrefl, if_false] at ho
          have hstep := Lib.hid (fun c => upto_succ (fun c : Nat => and (inB a c) (inB b c)) k c)
          generalize hu : inB a (k : Int) = u at *
          generalize hv : inB b (k : Int) = v at *
          have Hu := Lib.hid hu
          have Hv := Lib.hid hv
          clear hu hv
          go_wp2_with fail
          refine wp_region_still_tail 10 (by kernel_rfl) (by kernel_rfl) ?_
          simp only [List.take_succ_cons, List.take_zero, List.drop_succ_cons, List.drop_zero]
          repeat still_step
          still_call (common_any _ _ _)
          repeat still_step
          refine wpStill_nil ?_
          change wpList _ _ _ _ _ wr.drew
          have ho' : wr.drew.cell? ⟨wo.heap.size + 2, k, none⟩ = some (.bool false) := ho
          have hof' : wr.drew.frozen? ⟨wo.heap.size + 2, k, none⟩ = false := hof
          clear ho hof hx hy
          go_wp2
          go_roundw
          case rel => exact ⟨k + 1, by omega, by go_num, by (repeat (first | exact Below.refl _ _ | assumption | apply Below.drew | apply below_drewN | (refine Below.alloc ?_ (by first | omega | (simp; omega) | simp) _) | (refine Below.setCell ?_ (by first | omega | (simp; omega) | simp) _) | (refine Below.trans ?_ (Below.mono (by assumption) (by first | omega | (simp; omega) | simp))))), hX.far (by omega) k _, hY.far (by omega) k _, hO.put k _ hstep.out⟩
          case measure => simp [intOf]; omega
        · obtain rfl : k = 1001 := by omega
          have hO1 : Bits wr (wo.heap.size + 2) 78 (fun c => and (inB a c) (inB b c)) := hO.congr (fun c hc => by rw [if_pos hc])
          have h0 : and (inB a ((0 : Nat) : Int)) (inB b ((0 : Nat) : Int)) = false := by rw [inB_zero hra.out, inB_zero hrb.out]; rfl
          clear hX hY hO
          go_wp2_with (go_at_call 46; refine (ranges_any _ _ _ hO1 h0).mono ?_; rintro e w6 ⟨r, rfl, ho⟩)
          go_ret2
          rw [hfin.out]
          exact ⟨_, rfl, ho.up (hbw.trans (hbr.mono hsz))⟩

set_option maxHeartbeats 400000 in
theorem commonP_any (A : Option Addr) (n c : Nat) (a : RL) (B : Option Addr) (n' c' : Nat) (b : RL) (w : World) (ha : Rs w A n a) (hb : Rs w B n' b) (hn : n ≤ 1000000) (hn' : n' ≤ 1000000) :
    Calls Tryd.prog 21 #[.slice A n c, .slice B n' c'] w fun e w' => ∃ r, e = .returned (.tuple #[r, .int .i64 (combL and a b).2]) ∧ OutR 37 (combL and a b).1 w r w' := by
  go_enter Tryd.func21, Tryd.ntmps21
  go_wp2_with fail
  refine (combined_common _ _ c a _ _ c' b _ ha hb hn hn').mono ?_
  rintro e w1 ⟨r, rfl, ho⟩
  obtain ⟨A1, c1, rfl, ho1, hb1⟩ := ho
  generalize hL : combL and a b = L at *
  have HL := Lib.hid hL
  clear hL
  go_wp2_with fail
  go_ret2
  rw [HL.out]
  exact ⟨_, rfl, A1, c1, rfl, ho1, hb1⟩
end Go.Proofs.YteaofninjbhiaaaDoor
