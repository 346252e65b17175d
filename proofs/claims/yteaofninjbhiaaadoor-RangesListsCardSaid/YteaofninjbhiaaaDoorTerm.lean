/- The contract of term. -/
import Derived.Test.YteaofninjbhiaaaDoorThru
namespace Go.Proofs.YteaofninjbhiaaaDoor
open Go.RowKit

theorem only_setNew {a w : World} {row : Option Nat} (h : a.grownBy w row) {p : Addr} (hp : a.heap.size ≤ p.block) (u : Value) : a.grownBy (w.setCell p u) row :=
  ⟨h.os, h.tape, h.output, by simpa [World.setCell] using h.size, fun i hi hne => (Below.heap_setCell w p u i (by omega)).trans (h.block i hi hne)⟩
theorem term_err {S : BS} {k : Nat} (h : ¬ (chan S k).2.2 = 0) : term S k = ((((chan S k).1 : Int), ((chan S k).1 : Int)), (chan S k).2.1, (chan S k).2.2) := by
  unfold term; dsimp only; rw [if_neg h]
theorem term_one {S : BS} {k : Nat} (h : (chan S k).2.2 = 0) (ht : thruAt S (chan S k).2.1 = none) : term S k = ((((chan S k).1 : Int), ((chan S k).1 : Int)), (chan S k).2.1, 0) := by
  unfold term; dsimp only; rw [if_pos h, ht]
theorem term_two {S : BS} {k k2 : Nat} (h : (chan S k).2.2 = 0) (ht : thruAt S (chan S k).2.1 = some k2) :
    term S k = ((((min (chan S k).1 (chan S k2).1 : Nat) : Int), ((max (chan S k).1 (chan S k2).1 : Nat) : Int)), (chan S k2).2.1, (chan S k2).2.2) := by
  unfold term; dsimp only; rw [if_pos h, ht]

/-- the result's box behind the store of both fields -/
theorem box_cells {w : World} {h : Nat} {x y a b : Value} (hn0 : w.cell? ⟨h, 0, none⟩ = some a) (hn1 : w.cell? ⟨h, 1, none⟩ = some b) :
    (w.setCell ⟨h, 0, none⟩ x).cell? ⟨h, 0, none⟩ = some x ∧ ((w.setCell ⟨h, 0, none⟩ x).setCell ⟨h, 1, none⟩ y).cell? ⟨h, 1, none⟩ = some y := by
  refine ⟨World.cell?_setCell_same' _ _ _ (by rw [hn0]; rfl), World.cell?_setCell_same' _ _ _ ?_⟩
  rw [World.cell?_setCell_other _ _ _ _ (by simp), hn1]; rfl

set_option maxHeartbeats 4000000 in
theorem term_any (g : Nat) (s : ByteArray) (k : Nat) (w : World) (hr : Rd w g s k 0) (hk : k ≤ s.size) (hs : s.size ≤ 100000) :
    Calls Tryd.prog 44 #[.pointer (some ⟨g, 0, none⟩)] w fun r w' => r = .returned (.agg #[.int .i64 (term s.data.toList k).1.1, .int .i64 (term s.data.toList k).1.2]) ∧ Rd w' g s (term s.data.toList k).2.1 (term s.data.toList k).2.2 ∧ w.grownBy w' (some g) := by
  have hgl := hr.lt
  have hne : w.heap.size ≠ g := by omega
  have hch := chan_le (S := s.data.toList) (k := k) (by rw [bytes_len]; omega)
  rw [bytes_len] at hch
  obtain ⟨hch1, hch2, hch3, _⟩ := hch
  have hr1 : Rd (w.alloc (.cells #[.int .i64 0, .int .i64 0] 37)) g s k 0 := hr.alloc _
  by_cases he : (chan s.data.toList k).2.2 = 0
  · cases ht : thruAt s.data.toList (chan s.data.toList k).2.1 with
    | none =>
      have hres := Lib.hid (term_one he ht)
      have Ht := Lib.hid ht
      have He := Lib.hid he
      clear ht he
      generalize hC : chan s.data.toList k = C at *
      have HC := Lib.hid hC
      clear hC
      obtain ⟨c1, c2, c3⟩ := C
      dsimp only at *
      go_enter Tryd.func44, Tryd.ntmps44
      go_wp2_with fail
      refine (channel_any g s k _ hr1 hk hs).mono ?_
      rw [HC.out]
      dsimp only
      rw [He.out]
      rintro r w1 ⟨rfl, hr2, hg1⟩
      go_wp2_with fail
      refine (thru_ok g s c2 _ hr2 hch2 hs).mono ?_
      rw [Ht.out]
      dsimp only [Option.isSome, Option.getD]
      rintro r w2 ⟨rfl, hr3, hg2⟩
      have hg3 := hg1.trans hg2
      have hcc := only_cell hg3
      have hn0 : w2.cell? ⟨w.heap.size, 0, none⟩ = some (.int .i64 0) := by rw [hcc _ _ hne (by simp)]; simp
      have hn1 : w2.cell? ⟨w.heap.size, 1, none⟩ = some (.int .i64 0) := by rw [hcc _ _ hne (by simp)]; simp
      have hff : ∀ o, w2.frozen? ⟨w.heap.size, o, none⟩ = false := fun o => by rw [World.frozen?_of_block (hg3.block w.heap.size (by simp) (by simpa using hne))]; simp
      have hf0 := hff 0
      have hf1 := hff 1
      clear hcc hff
      go_wp2_with fail
      obtain ⟨e0, e1⟩ := box_cells (x := .int .i64 c1) (y := .int .i64 c1) hn0 hn1
      refine bodyPost_ret (v := .agg #[.int .i64 c1, .int .i64 c1]) (by simp [results, Tryd.results44, go_sem, e0, e1]) rfl ?_
      rw [hres.out]
      exact ⟨rfl, (hr3.of_block (Below.heap_setCell _ _ _ _ (by simpa using hne.symm))).of_block (Below.heap_setCell _ _ _ _ (by simpa using hne.symm)), only_setNew (only_setNew ((World.grownBy_alloc w _ _).trans hg3) (by simp) _) (by simp) _⟩
    | some k2 =>
      have hres := Lib.hid (term_two he ht)
      have hk2 := thruAt_le (S := s.data.toList) (by rw [bytes_len]; exact hch2) ht
      rw [bytes_len] at hk2
      have Ht := Lib.hid ht
      have He := Lib.hid he
      clear ht he
      generalize hC : chan s.data.toList k = C at *
      have HC := Lib.hid hC
      clear hC
      generalize hD : chan s.data.toList k2 = D at *
      have HD := Lib.hid hD
      clear hD
      obtain ⟨c1, c2, c3⟩ := C
      obtain ⟨d1, d2, d3⟩ := D
      dsimp only at *
      go_enter Tryd.func44, Tryd.ntmps44
      go_wp2_with fail
      refine (channel_any g s k _ hr1 hk hs).mono ?_
      rw [HC.out]
      dsimp only
      rw [He.out]
      rintro r w1 ⟨rfl, hr2, hg1⟩
      go_wp2_with fail
      refine (thru_ok g s c2 _ hr2 hch2 hs).mono ?_
      rw [Ht.out]
      dsimp only [Option.isSome, Option.getD]
      rintro r w2' ⟨rfl, hr3', hg2⟩
      go_wp2_with fail
      refine (channel_any g s k2 _ hr3' (by omega) hs).mono ?_
      rw [HD.out]
      dsimp only
      rintro r w2 ⟨rfl, hr3, hg2'⟩
      have hg3 := (hg1.trans hg2).trans hg2'
      have hcc := only_cell hg3
      have hn0 : w2.cell? ⟨w.heap.size, 0, none⟩ = some (.int .i64 0) := by rw [hcc _ _ hne (by simp)]; simp
      have hn1 : w2.cell? ⟨w.heap.size, 1, none⟩ = some (.int .i64 0) := by rw [hcc _ _ hne (by simp)]; simp
      have hff : ∀ o, w2.frozen? ⟨w.heap.size, o, none⟩ = false := fun o => by rw [World.frozen?_of_block (hg3.block w.heap.size (by simp) (by simpa using hne))]; simp
      have hf0 := hff 0
      have hf1 := hff 1
      clear hcc hff
      rcases (by omega : (d1 : Int) < c1 ∨ (c1 : Int) < d1 ∨ (c1 : Int) = d1) with hcd | hcd | hcd
      · have hmm := Lib.hid (show min c1 d1 = d1 ∧ max c1 d1 = c1 from by omega)
        go_wp2_with fail
        obtain ⟨e0, e1⟩ := box_cells (x := .int .i64 d1) (y := .int .i64 c1) hn0 hn1
        refine bodyPost_ret (v := .agg #[.int .i64 d1, .int .i64 c1]) (by simp [results, Tryd.results44, go_sem, e0, e1]) rfl ?_
        rw [hres.out, hmm.out.1, hmm.out.2]
        exact ⟨rfl, (hr3.of_block (Below.heap_setCell _ _ _ _ (by simpa using hne.symm))).of_block (Below.heap_setCell _ _ _ _ (by simpa using hne.symm)), only_setNew (only_setNew ((World.grownBy_alloc w _ _).trans hg3) (by simp) _) (by simp) _⟩
      · have hmm := Lib.hid (show min c1 d1 = c1 ∧ max c1 d1 = d1 from by omega)
        have hcd' : ¬ (d1 : Int) < c1 := by omega
        go_wp2_with fail
        obtain ⟨e0, e1⟩ := box_cells (x := .int .i64 c1) (y := .int .i64 d1) hn0 hn1
        refine bodyPost_ret (v := .agg #[.int .i64 c1, .int .i64 d1]) (by simp [results, Tryd.results44, go_sem, e0, e1]) rfl ?_
        rw [hres.out, hmm.out.1, hmm.out.2]
        exact ⟨rfl, (hr3.of_block (Below.heap_setCell _ _ _ _ (by simpa using hne.symm))).of_block (Below.heap_setCell _ _ _ _ (by simpa using hne.symm)), only_setNew (only_setNew ((World.grownBy_alloc w _ _).trans hg3) (by simp) _) (by simp) _⟩
      · obtain rfl : c1 = d1 := by omega
        have hmm := Lib.hid (show min c1 c1 = c1 ∧ max c1 c1 = c1 from by omega)
        clear hcd
        go_wp2_with fail
        obtain ⟨e0, e1⟩ := box_cells (x := .int .i64 c1) (y := .int .i64 c1) hn0 hn1
        refine bodyPost_ret (v := .agg #[.int .i64 c1, .int .i64 c1]) (by simp [results, Tryd.results44, go_sem, e0, e1]) rfl ?_
        rw [hres.out, hmm.out.1, hmm.out.2]
        exact ⟨rfl, (hr3.of_block (Below.heap_setCell _ _ _ _ (by simpa using hne.symm))).of_block (Below.heap_setCell _ _ _ _ (by simpa using hne.symm)), only_setNew (only_setNew ((World.grownBy_alloc w _ _).trans hg3) (by simp) _) (by simp) _⟩
  · have hres := Lib.hid (term_err he)
    have He := Lib.hid he
    clear he
    generalize hC : chan s.data.toList k = C at *
    have HC := Lib.hid hC
    clear hC
    obtain ⟨c1, c2, c3⟩ := C
    dsimp only at *
    go_enter Tryd.func44, Tryd.ntmps44
    go_wp2_with fail
    refine (channel_any g s k _ hr1 hk hs).mono ?_
    rw [HC.out]
    dsimp only
    rintro r w1 ⟨rfl, hr2, hg1⟩
    go_wp2_with fail
    refine (thru_err g s c2 c3 _ hr2 hch2 hs He.out).mono ?_
    rintro r w2 ⟨rfl, hr3, hg2⟩
    have hg3 := hg1.trans hg2
    have hcc := only_cell hg3
    have hn0 : w2.cell? ⟨w.heap.size, 0, none⟩ = some (.int .i64 0) := by rw [hcc _ _ hne (by simp)]; simp
    have hn1 : w2.cell? ⟨w.heap.size, 1, none⟩ = some (.int .i64 0) := by rw [hcc _ _ hne (by simp)]; simp
    have hff : ∀ o, w2.frozen? ⟨w.heap.size, o, none⟩ = false := fun o => by rw [World.frozen?_of_block (hg3.block w.heap.size (by simp) (by simpa using hne))]; simp
    have hf0 := hff 0
    have hf1 := hff 1
    clear hcc hff
    go_wp2_with fail
    obtain ⟨e0, e1⟩ := box_cells (x := .int .i64 c1) (y := .int .i64 c1) hn0 hn1
    refine bodyPost_ret (v := .agg #[.int .i64 c1, .int .i64 c1]) (by simp [results, Tryd.results44, go_sem, e0, e1]) rfl ?_
    rw [hres.out]
    exact ⟨rfl, (hr3.of_block (Below.heap_setCell _ _ _ _ (by simpa using hne.symm))).of_block (Below.heap_setCell _ _ _ _ (by simpa using hne.symm)), only_setNew (only_setNew ((World.grownBy_alloc w _ _).trans hg3) (by simp) _) (by simp) _⟩
end Go.Proofs.YteaofninjbhiaaaDoor
