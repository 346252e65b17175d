/- Contracts of cmp.Less and slices.IsSorted at ints, and of slices.Grow and slices.Concat at ints. -/
import Derived.Lib.Walk
import Derived.Lib.SliceRun
import Derived.Lib.AppendZerosOnto
import Derived.Test.YteaofninjbhiaaaDoorShelf
import Derived.Test.YteaofninjbhiaaaDoorEq
namespace Go.Proofs.YteaofninjbhiaaaDoor
open Go.RowKit

set_option maxHeartbeats 1000000 in
theorem less_any (x y : Int) (w : World) : Calls Tryd.prog 63 #[.int .i64 x, .int .i64 y] w fun e w' => e = .returned (.bool (decide (x < y))) ∧ w = w' := by
  go_enter Tryd.func63, Tryd.ntmps63
  go_wp2_with (go_at_call 73; refine (Tryd.cmp_isNaN_int _ _).mono ?_; rintro e w' ⟨rfl, rfl⟩)
  all_goals
    go_ret
    exact ⟨rfl, rfl⟩

theorem less_no {x y : Int} (h : y ≤ x) (w : World) : Calls Tryd.prog 63 #[.int .i64 x, .int .i64 y] w fun e w' => e = .returned (.bool false) ∧ w' = w :=
  (less_any x y w).mono fun e w' ⟨he, hw⟩ => ⟨by rw [he, decide_eq_false (by omega)], hw.symm⟩

set_option maxHeartbeats 1000000 in
theorem sorted_any (A : Option Addr) (n c : Nat) (l : List Int) (w : World) (hl : Is w A n l) (hn : n ≤ 1000000000) (hs : ∀ k, (h : k + 1 < l.length) → l[k] ≤ l[k + 1]) :
    Calls Tryd.prog 37 #[.slice A n c] w fun e w' => e = .returned (.bool true) ∧ Below w.heap.size w w' := by
  obtain ⟨rfl, _⟩ := id hl
  have HS := Lib.hid hs
  clear hs
  by_cases h0 : l.length = 0
  · have H0 := Lib.hid h0
    go_enter Tryd.func37, Tryd.ntmps37
    rw [h0]
    clear h0
    go_wp2
    go_loopw [3] (fun i wr => i = .int .i64 (-1) ∧ Below w.heap.size w wr) (fun i _ => 0)
    case atStart => exact ⟨by simp, Below.refl _ _⟩
    case round =>
      obtain ⟨rfl, hb⟩ := hrel
      go_wp2
      go_ret
      exact ⟨rfl, hb⟩
  · have h1 : ((l.length : Int) - 1) = ((l.length - 1 : Nat) : Int) := by omega
    have h2 : 1 ≤ l.length := by omega
    have H1 := Lib.hid h1
    clear h0 h1
    go_enter Tryd.func37, Tryd.ntmps37
    go_wp2
    go_loopw [3] (fun i wr => ∃ k : Nat, k < l.length ∧ i = .int .i64 k ∧ Below w.heap.size w wr) (fun i _ => (intOf i).toNat)
    case atStart => exact ⟨l.length - 1, by omega, by rw [H1.out], Below.refl _ _⟩
    case round =>
      obtain ⟨k, hk, rfl, hb⟩ := hrel
      by_cases hlt : 0 < k
      · obtain ⟨j, rfl⟩ : ∃ j, k = j + 1 := ⟨k - 1, by omega⟩
        have hle := HS.out j hk
        obtain ⟨b, o, rfl, hbl, hc1⟩ := (hl.below hb).at1 hk
        obtain ⟨b', o', e', hbl', hc2⟩ := (hl.below hb).at1 (k := j) (by omega)
        injection e' with e'
        injection e' with e1 e2
        subst e1; subst e2
        have hj : (((j + 1 : Nat) : Int) - 1) = (j : Int) := by omega
        generalize l[j + 1] = x at *
        generalize l[j] = y at *
        have hj1 : ((j : Int) + 1 - 1) = (j : Int) := by omega
        clear hj
        go_wp2
        go_quiet ((go_at_call 63; exact Calls.quiet_of_same (less_no hle _)))
        go_wp2
        go_roundw
        case rel => exact ⟨j, by omega, by first | rfl | go_num, by (repeat (first | exact Below.refl _ _ | assumption | apply Below.drew | apply below_drewN | (refine Below.alloc ?_ (by first | omega | (simp; omega) | simp) _) | (refine Below.setCell ?_ (by first | omega | (simp; omega) | simp) _) | (refine Below.trans ?_ (Below.mono (by assumption) (by first | omega | (simp; omega) | simp)))))⟩
        case measure => simp [intOf]
      · obtain rfl : k = 0 := by omega
        go_wp2
        go_ret
        exact ⟨rfl, hb⟩

theorem zeros_cells (n : Nat) : (Builtin.zeroCells (Value.int .i64 0).cells n).size = n := by
  simp [Builtin.zeroCells, Value.cells]

set_option maxHeartbeats 1000000 in
theorem grow_any (n : Nat) (w : World) (h0 : 0 < n) (hn : n ≤ 100000) :
    Calls Tryd.prog 64 #[.slice none 0 0, .int .i64 n] w fun e w' => ∃ g cap, e = .returned (.slice (some ⟨g, 0, none⟩) 0 cap) ∧ w'.ownsRow w.heap.size 3 1 (.slice (some ⟨g, 0, none⟩) 0 cap) 0 [] ∧ Below w.heap.size w w' := by
  obtain ⟨i, hi, hz, hs, hb⟩ := info_parts infoI
  have hold : (Builtin.firstCells i.size 0 (.slice none 0 0)).run Tryd.prog w.drew = .ok ([] : List Value).toArray w.drew := run_firstCells_none w.drew i.size 0 0 0
  have hrz : ∀ ty, (Builtin.append_ #[54, 3] ty #[.slice none 0 0, .int .i64 n]).run Tryd.prog w =
      .ok (.slice (some ⟨w.heap.size, 0, none⟩) n (grownCap w n 0 3)) (w.drew.alloc (.cells (([] : List Value).toArray ++ Builtin.zeroCells (Value.int .i64 0).cells n ++ Builtin.zeroCells (Value.int .i64 0).cells (grownCap w n 0 3 - n)) 3)) := fun ty => by
    have h := Lib.run_append_grow_zeros w 54 3 ty 3 i (.int .i64 0) .i64 .i64 Tryd.underlying54 Tryd.underlying3 hi hz none 0 0 [] hold n h0 (by omega) (by omega) (by omega) (by rw [hb]; omega)
      (by rw [hb]; exact growslice_fits (by omega) (by omega))
    simpa using h
  have hG1 : n ≤ grownCap w n 0 3 := grownCap_ge w _ _ _
  have hG2 : grownCap w n 0 3 ≤ maxLen := grownCap_le_maxLen w _ _ _ (by unfold maxLen; omega)
  generalize grownCap w n 0 3 = G at *
  have hG3 : G ≤ 9223372036854775807 := by unfold maxLen at hG2; omega
  have hfin : Hid ((w.drew.alloc (.cells (([] : List Value).toArray ++ Builtin.zeroCells (Value.int .i64 0).cells n ++ Builtin.zeroCells (Value.int .i64 0).cells (G - n)) 3)).ownsRow w.heap.size 3 1 (.slice (some ⟨w.heap.size, 0, none⟩) 0 G) 0 []) := by
    refine ⟨rfl, .inr ⟨w.heap.size, G, _, rfl, Nat.le_refl _, World.alloc_heap_new w.drew _, by omega, hG2, ?_, by simp⟩⟩
    rw [Array.size_append, Array.size_append, zeros_cells, zeros_cells]; simp; omega
  generalize Builtin.zeroCells (Value.int .i64 0).cells n = Z1 at *
  generalize Builtin.zeroCells (Value.int .i64 0).cells (G - n) = Z2 at *
  clear hold hz hi hs hb
  go_enter Tryd.func64, Tryd.ntmps64
  go_wp2_with (at_builtin; refine Lib.wpList_append_run _ rfl _ _ _ _ rfl _ _ rfl rfl _ _ (hrz _) ?_)
  go_ret
  exact ⟨_, _, rfl, by
    rw [show (w.alloc (.cells (Z1 ++ Z2) 3)).drew = w.drew.alloc (.cells (Z1 ++ Z2) 3) from rfl]
    simpa using hfin.out, by (repeat (first | exact Below.refl _ _ | assumption | apply Below.drew | apply below_drewN | (refine Below.alloc ?_ (by first | omega | (simp; omega) | simp) _) | (refine Below.setCell ?_ (by first | omega | (simp; omega) | simp) _) | (refine Below.trans ?_ (Below.mono (by assumption) (by first | omega | (simp; omega) | simp)))))⟩

theorem Is.addc {w : World} {a : Addr} {n : Nat} {l : List Int} (h : Is w (some a) n l) : (iv l).length = n * 1 ∧ ∀ j u, (iv l)[j]? = some u → w.cell? (a.add j) = some u := by
  obtain ⟨rfl, h1, h2⟩ := h
  refine ⟨h1, fun j u hu => ?_⟩
  have hj : j < (iv l).length := (List.getElem?_eq_some_iff.1 hu).1
  obtain ⟨b, o, e, _, hc⟩ := h2 (by rw [h1] at hj; omega)
  injection e with e
  subst e
  have := hc j u hu
  unfold Addr.add
  by_cases hj : j = 0
  · subst hj; simpa using this
  · simpa [hj] using this
/-- the lengths of the first k of three lists, and the first k of them, one behind the other -/
def cat3 (x y z : List Int) : Nat → List Int
  | 0 => []
  | 1 => x
  | 2 => x ++ y
  | _ => x ++ (y ++ z)
/-- block b holds the three slices -/
def Three (w : World) (b : Nat) (t : TypeId) (v1 v2 v3 : Value) : Prop := w.heap[b]? = some (.cells #[v1, v2, v3] t (0, 0))

set_option maxRecDepth 100000 in
set_option maxHeartbeats 4000000 in
theorem concat_any (b : Nat) (a1 a2 a3 : Addr) (n1 n2 n3 c1 c2 c3 : Nat) (x y z : List Int) (w : World)
    (hb : w.cell? ⟨b, 0, none⟩ = some (.slice (some a1) n1 c1) ∧ w.cell? ⟨b, 1, none⟩ = some (.slice (some a2) n2 c2) ∧ w.cell? ⟨b, 2, none⟩ = some (.slice (some a3) n3 c3)) (hbl : b < w.heap.size)
    (hx : Is w (some a1) n1 x) (hy : Is w (some a2) n2 y) (hz : Is w (some a3) n3 z) (hn : n1 + (n2 + n3) ≤ 100000) (h0 : 0 < n1 + (n2 + n3)) :
    Calls Tryd.prog 38 #[.slice (some ⟨b, 0, none⟩) 3 3] w fun e w' => ∃ r, e = .returned r ∧ OutI 3 (x ++ (y ++ z)) w r w' := by
  obtain ⟨hb1, hb2, hb3⟩ := hb
  obtain ⟨i0, hi, hz0, hzz1, hz2⟩ := info_parts infoI
  have HX := Lib.hid hx.1
  have HY := Lib.hid hy.1
  have HZ := Lib.hid hz.1
  go_enter Tryd.func38, Tryd.ntmps38
  go_wp2
  go_loop [3, 11] (fun s i => (i = .int .i64 0 ∧ s = .int .i64 0) ∨ (i = .int .i64 1 ∧ s = .int .i64 n1) ∨ (i = .int .i64 2 ∧ s = .int .i64 (n1 + n2)) ∨ (i = .int .i64 3 ∧ s = .int .i64 (n1 + n2 + n3))) (fun _ i => 3 - (intOf i).toNat)
  case atStart => exact .inl ⟨rfl, rfl⟩
  case round =>
    rcases hrel with ⟨rfl, rfl⟩ | ⟨rfl, rfl⟩ | ⟨rfl, rfl⟩ | ⟨rfl, rfl⟩
    · go_wp2
      go_round
      case rel => exact .inr (.inl ⟨rfl, by go_num⟩)
      case measure => simp [intOf]
    · go_wp2
      go_round
      case rel => exact .inr (.inr (.inl ⟨rfl, by go_num⟩))
      case measure => simp [intOf]
    · go_wp2
      go_round
      case rel => exact .inr (.inr (.inr ⟨rfl, by go_num⟩))
      case measure => simp [intOf]
    · have hnn : ((n1 : Int) + n2 + n3) = ((n1 + (n2 + n3) : Nat) : Int) := by omega
      rw [hnn]
      have HN := Lib.hid hnn
      clear hnn
      go_wp2_with fail
      refine (grow_any (n1 + (n2 + n3)) _ h0 hn).mono ?_
      rintro e w1 ⟨g, cap, rfl, ho, hB⟩
      have hcc := (bcell hB).1
      have g1 := (hcc b 0 hbl).trans hb1
      have g2 := (hcc b 1 hbl).trans hb2
      have g3 := (hcc b 2 hbl).trans hb3
      have hx1 := hx.below hB
      have hy1 := hy.below hB
      have hz1 := hz.below hB
      clear hcc
      go_wp2
      go_loopw [6, 27] (fun v i wr => ∃ k : Nat, k ≤ 3 ∧ i = .int .i64 k ∧ wr.ownsRow w.heap.size 3 1 v (cat3 x y z k).length (iv (cat3 x y z k)) ∧ Below w.heap.size w wr) (fun _ i _ => 3 - (intOf i).toNat)
      case atStart => exact ⟨0, by omega, rfl, ho, hB⟩
      case round =>
        clear g1 g2 g3 hx1 hy1 hz1 ho hB
        obtain ⟨k, hk, rfl, hown, hbw⟩ := hrel
        have hcc := (bcell hbw).1
        have g1 := (hcc b 0 hbl).trans hb1
        have g2 := (hcc b 1 hbl).trans hb2
        have g3 := (hcc b 2 hbl).trans hb3
        have hx1 := hx.below hbw
        have hy1 := hy.below hbw
        have hz1 := hz.below hbw
        clear hcc
        obtain rfl | rfl | rfl | rfl : k = 0 ∨ k = 1 ∨ k = 2 ∨ k = 3 := by omega
        · go_wp2_with (at_builtin; refine wpList_append_own _ rfl _ _ 54 rfl w.heap.size 3 i0 (.int .i64 0) 1 8 Tryd.underlying54 hi hz0 hzz1 hz2 rfl (by decide) _ _ _ rfl hown a1 n1 c1 (iv x) rfl hx1.addc.1 hx1.addc.2 (iv_one x) (by have := HX.out; have := HY.out; have := HZ.out; unfold maxLen; simp only [cat3, List.length_append, List.length_nil]; omega) (by have := HX.out; have := HY.out; have := HZ.out; simp only [cat3, List.length_append, List.length_nil]; omega) hbw.size ?_; intro v' w2 hown' hgrow _)
          go_roundw
          case rel => exact ⟨1, by omega, rfl, by
            have e : cat3 x y z (1) = cat3 x y z 0 ++ x := by simp [cat3]
            rw [e, List.length_append, iv_append, ← hx.1]
            exact hown', below_push hbw (Nat.le_refl _) hown hgrow⟩
          case measure => simp [intOf]
        · go_wp2_with (at_builtin; refine wpList_append_own _ rfl _ _ 54 rfl w.heap.size 3 i0 (.int .i64 0) 1 8 Tryd.underlying54 hi hz0 hzz1 hz2 rfl (by decide) _ _ _ rfl hown a2 n2 c2 (iv y) rfl hy1.addc.1 hy1.addc.2 (iv_one y) (by have := HX.out; have := HY.out; have := HZ.out; unfold maxLen; simp only [cat3, List.length_append, List.length_nil]; omega) (by have := HX.out; have := HY.out; have := HZ.out; simp only [cat3, List.length_append, List.length_nil]; omega) hbw.size ?_; intro v' w2 hown' hgrow _)
          go_roundw
          case rel => exact ⟨2, by omega, rfl, by
            have e : cat3 x y z (2) = cat3 x y z 1 ++ y := by simp [cat3]
            rw [e, List.length_append, iv_append, ← hy.1]
            exact hown', below_push hbw (Nat.le_refl _) hown hgrow⟩
          case measure => simp [intOf]
        · go_wp2_with (at_builtin; refine wpList_append_own _ rfl _ _ 54 rfl w.heap.size 3 i0 (.int .i64 0) 1 8 Tryd.underlying54 hi hz0 hzz1 hz2 rfl (by decide) _ _ _ rfl hown a3 n3 c3 (iv z) rfl hz1.addc.1 hz1.addc.2 (iv_one z) (by have := HX.out; have := HY.out; have := HZ.out; unfold maxLen; simp only [cat3, List.length_append, List.length_nil]; omega) (by have := HX.out; have := HY.out; have := HZ.out; simp only [cat3, List.length_append, List.length_nil]; omega) hbw.size ?_; intro v' w2 hown' hgrow _)
          go_roundw
          case rel => exact ⟨3, by omega, rfl, by
            have e : cat3 x y z (3) = cat3 x y z 2 ++ z := by simp [cat3]
            rw [e, List.length_append, iv_append, ← hz.1]
            exact hown', below_push hbw (Nat.le_refl _) hown hgrow⟩
          case measure => simp [intOf]
        · obtain ⟨A', c', rfl⟩ := own_form hown
          go_wp2
          go_ret
          exact ⟨_, rfl, A', c', rfl, hown, hbw⟩
end Go.Proofs.YteaofninjbhiaaaDoor
