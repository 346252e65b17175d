/- Lemmas and contracts of functions, joined for the claim: LkPM, LkPN, LkPX, LkPK, LkPI, LkPT. -/
import Derived.Test.YtbhkfemebionnaaGreatDoorMRefB
namespace Go.Proofs.YtbhkfemebionnaaGreatDoor
open Go.RowKit

def cmpP (c a d b : Int) : Int := if c = d then a - b else c - d
theorem cmpP_lt {c a d b : Int} : cmpP c a d b < 0 ↔ ltP c a d b := by
  unfold cmpP ltP
  by_cases h : c = d
  · rw [if_pos h]; omega
  · rw [if_neg h]; omega
theorem cmpP_eq {c a d b : Int} : cmpP c a d b = 0 ↔ (c = d ∧ a = b) := by
  unfold cmpP
  by_cases h : c = d
  · rw [if_pos h]; omega
  · rw [if_neg h]; omega
set_option maxHeartbeats 4000000 in
theorem ncmpc_any (c a d b : Int) (w : World) (h1 : parOK c a) (h2 : parOK d b) :
    Calls Tryz.prog 102 #[.agg #[.int .i64 c, .int .i64 a], .agg #[.int .i64 d, .int .i64 b]] w fun e w' => e = .returned (.int .i64 (cmpP c a d b)) ∧ Below w.heap.size w w' := by
  unfold parOK at h1 h2
  have w1 : IntKind.i64.wrap (c - d) = c - d := IntWalk.i64_in _ (by omega)
  have w2 : IntKind.i64.wrap (a - b) = a - b := IntWalk.i64_in _ (by omega)
  clear h1 h2
  by_cases h : c = d
  · subst h
    have HE := Lib.hid (show cmpP c a c b = a - b by unfold cmpP; rw [if_pos rfl])
    go_enter Tryz.func102, Tryz.ntmps102
    go_wp2_with fail
    go_ret
    exact ⟨by rw [HE.out]; rfl, ((Below.refl _ _).alloc (Nat.le_refl _) _).alloc (by simp) _⟩
  · have HE := Lib.hid (show cmpP c a d b = c - d by unfold cmpP; rw [if_neg h])
    have hb : (c != d) = true := by simpa using h
    go_enter Tryz.func102, Tryz.ntmps102
    go_wp2_with fail
    go_ret
    exact ⟨by rw [HE.out]; rfl, ((Below.refl _ _).alloc (Nat.le_refl _) _).alloc (by simp) _⟩
set_option maxHeartbeats 4000000 in
theorem ncmpt_any (c a d b : Int) (w : World) (h1 : parOK c a) (h2 : parOK d b) :
    Calls Tryz.prog 85 #[.agg #[.int .i64 c, .int .i64 a], .agg #[.int .i64 d, .int .i64 b]] w fun e w' => e = .returned (.int .i64 (cmpP c a d b)) ∧ Below w.heap.size w w' := by
  unfold parOK at h1 h2
  have w1 : IntKind.i64.wrap (c - d) = c - d := IntWalk.i64_in _ (by omega)
  have w2 : IntKind.i64.wrap (a - b) = a - b := IntWalk.i64_in _ (by omega)
  clear h1 h2
  by_cases h : c = d
  · subst h
    have HE := Lib.hid (show cmpP c a c b = a - b by unfold cmpP; rw [if_pos rfl])
    go_enter Tryz.func85, Tryz.ntmps85
    go_wp2_with fail
    go_ret
    exact ⟨by rw [HE.out]; rfl, ((Below.refl _ _).alloc (Nat.le_refl _) _).alloc (by simp) _⟩
  · have HE := Lib.hid (show cmpP c a d b = c - d by unfold cmpP; rw [if_neg h])
    have hb : (c != d) = true := by simpa using h
    go_enter Tryz.func85, Tryz.ntmps85
    go_wp2_with fail
    go_ret
    exact ⟨by rw [HE.out]; rfl, ((Below.refl _ _).alloc (Nat.le_refl _) _).alloc (by simp) _⟩
set_option maxRecDepth 100000 in
set_option maxHeartbeats 16000000 in
theorem nmove_any (ch atr pa le pt : Int) (A : Option Addr) (n c : Nat) (w : World) (hm : Mv.ok ⟨ch, atr, pa, le, pt⟩) (hn : n ≤ 9223372036854775807)
    (hb : 0 < n → ∃ b o qc qa, A = some ⟨b, o, none⟩ ∧ b < w.heap.size ∧ w.cell? ⟨b, o + (n - 1) * 5, none⟩ = some (.int .i64 qc) ∧ w.cell? ⟨b, o + (n - 1) * 5 + 1, none⟩ = some (.int .i64 qa) ∧ parOK qc qa ∧ ltP qc qa ch atr) :
    Calls Tryz.prog 77 #[.agg #[.int .i64 ch, .int .i64 atr, .int .i64 pa, .int .i64 le, .int .i64 pt], .slice A n c] w fun e w' => e = .returned (.int .i64 0) ∧ Below w.heap.size w w' := by
  obtain ⟨m1, m2, m3, m4⟩ := hm
  have m1 : parOK ch atr := m1
  have m2 : valOK pa le := m2
  have m3 : 1 ≤ pt := m3
  have m4 : pt ≤ 4 := m4
  have HP1 := Lib.hid (fun w => nparam_any ch atr w)
  rw [parE_iff.2 m1] at HP1
  have HP2 := Lib.hid (fun w => nval_any pa le w)
  rw [valE_iff.2 m2] at HP2
  have g3 : ¬ pt < 1 := by omega
  have g4 : ¬ 4 < pt := by omega
  obtain ⟨W, hW⟩ : ∃ W, W = w.alloc (.cells #[.int .i64 ch, .int .i64 atr, .int .i64 pa, .int .i64 le, .int .i64 pt] 43) := ⟨_, rfl⟩
  have hB0 : Below w.heap.size w W := by rw [hW]; exact (Below.refl _ _).alloc (Nat.le_refl _) _
  have hcW : Cells W w.heap.size [.int .i64 ch, .int .i64 atr, .int .i64 pa, .int .i64 le, .int .i64 pt] := by rw [hW]; exact Cells.fresh w [.int .i64 ch, .int .i64 atr, .int .i64 pa, .int .i64 le, .int .i64 pt] _
  have hK : ∀ V, Below W.heap.size W V → V.cell? ⟨w.heap.size, 0, none⟩ = some (.int .i64 ch) ∧ V.cell? ⟨w.heap.size, 1, none⟩ = some (.int .i64 atr) ∧ V.cell? ⟨w.heap.size, 2, none⟩ = some (.int .i64 pa) ∧ V.cell? ⟨w.heap.size, 3, none⟩ = some (.int .i64 le) ∧ V.cell? ⟨w.heap.size, 4, none⟩ = some (.int .i64 pt) ∧ w.heap.size < V.heap.size := fun V h => by
    have hc := hcW.below h hcW.1
    exact ⟨hc.at_ (j := 0) rfl, hc.at_ (j := 1) rfl, hc.at_ (j := 2) rfl, hc.at_ (j := 3) rfl, hc.at_ (j := 4) rfl, hc.1⟩
  have HK := Lib.hid hK
  have HW := Lib.hid hW
  have HB0 := Lib.hid hB0
  have hB := Below.refl W.heap.size W
  by_cases h0 : 0 < n
  · obtain ⟨b, o, qc, qa, rfl, hbl, y0, y1, hq, hlt⟩ := hb h0
    have HQ := Lib.hid (show ∀ V, Below W.heap.size W V → V.cell? ⟨b, o + (n - 1) * 5, none⟩ = some (.int .i64 qc) ∧ V.cell? ⟨b, o + (n - 1) * 5 + 1, none⟩ = some (.int .i64 qa) ∧ b < V.heap.size from fun V hV => by
      have hV := hB0.trans (hV.mono hB0.size)
      exact ⟨(hV.cell (p := ⟨b, o + (n - 1) * 5, none⟩) hbl).trans y0, (hV.cell (p := ⟨b, o + (n - 1) * 5 + 1, none⟩) hbl).trans y1, Nat.lt_of_lt_of_le hbl hV.size⟩)
    have HCm := Lib.hid (fun w => ncmpc_any qc qa ch atr w hq m1)
    have ho : ¬ 0 ≤ cmpP qc qa ch atr := by have := cmpP_lt.2 hlt; omega
    generalize cmpP qc qa ch atr = od at *
    have gk : (0 : Int) < (n : Int) := by omega
    have w1 : IntKind.i64.wrap ((n : Int) - 1) = (n : Int) - 1 := IntWalk.i64_in _ (by omega)
    have j0 : (0 : Int) ≤ (n : Int) - 1 := by omega
    have j0b : (1 : Int) ≤ (n : Int) := by omega
    have j1 : (n : Int) - 1 < (n : Int) := by omega
    have jn : ((n : Int) - 1).toNat = n - 1 := by omega
    clear hW hB0 hcW hK m1 m2 m3 m4 hq hlt y0 y1 hbl hb hn
    go_enter Tryz.func77, Tryz.ntmps77
    go_wp2_with fail
    rw [← HW.out]
    obtain ⟨c0, c1, c2, c3, c4, hsz⟩ := HK.out _ hB
    go_wp2_with (first | (go_at_call 100; refine (HP1.out _).mono ?_; rintro e w7 ⟨rfl, hb⟩; replace hB := hB.trans (hb.mono hB.size); clear hb; obtain ⟨c0, c1, c2, c3, c4, hsz⟩ := HK.out _ hB) | (go_at_call 101; refine (HP2.out _).mono ?_; rintro e w8 ⟨rfl, hb⟩; replace hB := hB.trans (hb.mono hB.size); clear hb; obtain ⟨c0, c1, c2, c3, c4, hsz⟩ := HK.out _ hB))
    replace hB := below_drewN hB 1
    obtain ⟨c0, c1, c2, c3, c4, hsz⟩ := HK.out _ hB
    obtain ⟨y0, y1, hbw⟩ := HQ.out _ hB
    refine wp_region_held_drew (S := fun w' => w'.cell? ⟨b, o + (n - 1) * 5, none⟩ = some (.int .i64 qc) ∧ w'.cell? ⟨b, o + (n - 1) * 5 + 1, none⟩ = some (.int .i64 qa) ∧ w'.cell? ⟨w.heap.size, 0, none⟩ = some (.int .i64 ch) ∧ w'.cell? ⟨w.heap.size, 1, none⟩ = some (.int .i64 atr)) (by kernel_rfl) (by first | exact ⟨y0, y1, c0, c1⟩) (fun hHeld => ?_)
    refine wpAnyH_take (i := 0) (oi := ?_) (v := ?_) ?_ (by kernel_rfl) (by kernel_rfl) (by kernel_rfl) ?_ (Or.inl ⟨?_, ?_⟩) (by assumption) ?_
    rotate_left 2
    · (simp only [List.getElem?_toArray, List.getElem?_cons_zero]; rfl)
    · exact fun _ _ _ h => h
    · rfl
    · (intro w hSw; (try dsimp only at hSw); go_simp; try with_reducible rfl)
    simp only [Act.put, List.setIfInBounds_toArray, List.set_cons_zero, List.set_cons_succ]
    refine wpAnyH_take (i := 1) (oi := ?_) (v := ?_) ?_ (by kernel_rfl) (by kernel_rfl) (by kernel_rfl) ?_ (Or.inl ⟨?_, ?_⟩) (by assumption) ?_
    rotate_left 2
    · (simp only [List.getElem?_toArray, List.getElem?_cons_succ, List.getElem?_cons_zero]; rfl)
    · exact fun _ _ _ h => h
    · rfl
    · (intro w hSw; (try dsimp only at hSw); go_simp; try with_reducible rfl)
    simp only [Act.put, List.setIfInBounds_toArray, List.set_cons_zero, List.set_cons_succ]
    refine wpAnyH_take (i := 2) (oi := ?_) (v := ?_) ?_ (by kernel_rfl) (by kernel_rfl) (by kernel_rfl) ?_ (Or.inl ⟨?_, ?_⟩) (by assumption) ?_
    rotate_left 2
    · (simp only [List.getElem?_toArray, List.getElem?_cons_succ, List.getElem?_cons_zero]; rfl)
    · exact fun _ _ _ h => h
    · rfl
    · (intro w hSw; (try dsimp only at hSw); go_simp; try with_reducible rfl)
    simp only [Act.put, List.setIfInBounds_toArray, List.set_cons_zero, List.set_cons_succ]
    refine wpAnyH_take (i := 3) (oi := ?_) (v := ?_) ?_ (by kernel_rfl) (by kernel_rfl) (by kernel_rfl) ?_ (Or.inl ⟨?_, ?_⟩) (by assumption) ?_
    rotate_left 2
    · (simp only [List.getElem?_toArray, List.getElem?_cons_succ, List.getElem?_cons_zero]; rfl)
    · exact fun _ _ _ h => h
    · rfl
    · (intro w hSw; (try dsimp only at hSw); go_simp; try with_reducible rfl)
    simp only [Act.put, List.setIfInBounds_toArray, List.set_cons_zero, List.set_cons_succ]
    refine wpAnyH_take (i := 4) (oi := ?_) (v := ?_) ?_ (by kernel_rfl) (by kernel_rfl) (by kernel_rfl) ?_ (Or.inl ⟨?_, ?_⟩) (by assumption) ?_
    rotate_left 2
    · (simp only [List.getElem?_toArray, List.getElem?_cons_succ, List.getElem?_cons_zero]; rfl)
    · exact fun _ _ _ h => h
    · rfl
    · (intro w hSw; (try dsimp only at hSw); go_simp; try with_reducible rfl)
    simp only [Act.put, List.setIfInBounds_toArray, List.set_cons_zero, List.set_cons_succ]
    refine wpAnyH_take (i := 5) (oi := ?_) (v := ?_) ?_ (by kernel_rfl) (by kernel_rfl) (by kernel_rfl) ?_ (Or.inl ⟨?_, ?_⟩) (by assumption) ?_
    rotate_left 2
    · (simp only [List.getElem?_toArray, List.getElem?_cons_succ, List.getElem?_cons_zero]; rfl)
    · exact fun _ _ _ h => h
    · rfl
    · (intro w hSw; (try dsimp only at hSw); go_simp; try with_reducible rfl)
    simp only [Act.put, List.setIfInBounds_toArray, List.set_cons_zero, List.set_cons_succ]
    refine wpAnyH_take (i := 6) (oi := ?_) (v := ?_) ?_ (by kernel_rfl) (by kernel_rfl) (by kernel_rfl) ?_ (Or.inl ⟨?_, ?_⟩) (by assumption) ?_
    rotate_left 2
    · (simp only [List.getElem?_toArray, List.getElem?_cons_succ, List.getElem?_cons_zero]; rfl)
    · exact fun _ _ _ h => h
    · rfl
    · (intro w hSw; (try dsimp only at hSw); go_simp; try with_reducible rfl)
    simp only [Act.put, List.setIfInBounds_toArray, List.set_cons_zero, List.set_cons_succ]
    refine wpAnyH_take (i := 7) (oi := ?_) (v := ?_) ?_ (by kernel_rfl) (by kernel_rfl) (by kernel_rfl) ?_ (Or.inl ⟨?_, ?_⟩) (by assumption) ?_
    rotate_left 2
    · (simp only [List.getElem?_toArray, List.getElem?_cons_succ, List.getElem?_cons_zero]; rfl)
    · exact fun _ _ _ h => h
    · rfl
    · (intro w hSw; (try dsimp only at hSw); go_simp; try with_reducible rfl)
    simp only [Act.put, List.setIfInBounds_toArray, List.set_cons_zero, List.set_cons_succ]
    refine wpAnyH_take (i := 8) (oi := ?_) (v := ?_) ?_ (by kernel_rfl) (by kernel_rfl) (by kernel_rfl) ?_ (Or.inl ⟨?_, ?_⟩) (by assumption) ?_
    rotate_left 2
    · (simp only [List.getElem?_toArray, List.getElem?_cons_succ, List.getElem?_cons_zero]; rfl)
    · exact fun _ _ _ h => h
    · rfl
    · (intro w hSw; (try dsimp only at hSw); go_simp; try with_reducible rfl)
    simp only [Act.put, List.setIfInBounds_toArray, List.set_cons_zero, List.set_cons_succ]
    refine wpAnyH_take (i := 9) (oi := ?_) (v := ?_) ?_ (by kernel_rfl) (by kernel_rfl) (by kernel_rfl) ?_ (Or.inl ⟨?_, ?_⟩) (by assumption) ?_
    rotate_left 2
    · (simp only [List.getElem?_toArray, List.getElem?_cons_succ, List.getElem?_cons_zero]; rfl)
    · exact fun _ _ _ h => h
    · rfl
    · (intro w hSw; (try dsimp only at hSw); go_simp; try with_reducible rfl)
    simp only [Act.put, List.setIfInBounds_toArray, List.set_cons_zero, List.set_cons_succ]
    refine wpAnyH_take (i := 10) (oi := ?_) (v := ?_) ?_ (by kernel_rfl) (by kernel_rfl) (by kernel_rfl) ?_ (Or.inl ⟨?_, ?_⟩) (by assumption) ?_
    rotate_left 2
    · (simp only [List.getElem?_toArray, List.getElem?_cons_succ, List.getElem?_cons_zero]; rfl)
    · exact fun _ _ _ h => h
    · rfl
    · (intro w hSw; (try dsimp only at hSw); go_simp; try with_reducible rfl)
    simp only [Act.put, List.setIfInBounds_toArray, List.set_cons_zero, List.set_cons_succ]
    refine wpAnyH_ready (rs := [11]) (by kernel_rfl) (by simp) ?_
    refine AllReadyH.cons rfl (fun K hK => ?_) AllReadyH.nil
    go_simp
    go_at_call 102; refine (HCm.out _).mono ?_; rintro e w9 ⟨rfl, hb⟩; replace hB := hB.trans (hb.mono hB.size); clear hb; obtain ⟨c0, c1, c2, c3, c4, hsz⟩ := HK.out _ hB; obtain ⟨y0, y1, hbw⟩ := HQ.out _ hB
    go_wp2_with fail
    refine hK.out _ _ (by first | exact ⟨y0, y1, c0, c1⟩) (fun hHeld => ?_)
    clear hK K
    try simp only [Act.put, List.setIfInBounds_toArray, List.set_cons_zero, List.set_cons_succ]
    refine wpAnyH_take (i := 12) (oi := ?_) (v := ?_) ?_ (by kernel_rfl) (by kernel_rfl) (by kernel_rfl) ?_ (Or.inl ⟨?_, ?_⟩) (by assumption) ?_
    rotate_left 2
    · (simp only [List.getElem?_toArray, List.getElem?_cons_succ, List.getElem?_cons_zero]; rfl)
    · exact fun _ _ _ h => h
    · rfl
    · (intro w hSw; (try dsimp only at hSw); go_simp; try with_reducible rfl)
    simp only [Act.put, List.setIfInBounds_toArray, List.set_cons_zero, List.set_cons_succ]
    refine wpAnyH_take (i := 13) (oi := ?_) (v := ?_) ?_ (by kernel_rfl) (by kernel_rfl) (by kernel_rfl) ?_ (Or.inl ⟨?_, ?_⟩) (by assumption) ?_
    rotate_left 2
    · (simp only [List.getElem?_toArray, List.getElem?_cons_succ, List.getElem?_cons_zero]; rfl)
    · exact fun _ _ _ h => h
    · rfl
    · (intro w hSw; (try dsimp only at hSw); go_simp; try with_reducible rfl)
    simp only [Act.put, List.setIfInBounds_toArray, List.set_cons_zero, List.set_cons_succ]
    refine wpAnyH_done (by kernel_rfl) ?_ _
    go_wp2_with fail
    go_ret
    exact ⟨rfl, HB0.out.trans (hB.mono HB0.out.size)⟩
  · have gk : ¬ (0 : Int) < (n : Int) := by omega
    clear hW hB0 hcW hK m1 m2 m3 m4 hb hn
    go_enter Tryz.func77, Tryz.ntmps77
    go_wp2_with fail
    rw [← HW.out]
    obtain ⟨c0, c1, c2, c3, c4, hsz⟩ := HK.out _ hB
    go_wp2_with (first | (go_at_call 100; refine (HP1.out _).mono ?_; rintro e w7 ⟨rfl, hb⟩; replace hB := hB.trans (hb.mono hB.size); clear hb; obtain ⟨c0, c1, c2, c3, c4, hsz⟩ := HK.out _ hB) | (go_at_call 101; refine (HP2.out _).mono ?_; rintro e w8 ⟨rfl, hb⟩; replace hB := hB.trans (hb.mono hB.size); clear hb; obtain ⟨c0, c1, c2, c3, c4, hsz⟩ := HK.out _ hB))
    replace hB := below_drewN hB 1
    refine wp_region_held_drew (S := fun _ => True) (by kernel_rfl) (by first | exact trivial) (fun hHeld => ?_)
    refine wpAnyH_take (i := 0) (oi := ?_) (v := ?_) ?_ (by kernel_rfl) (by kernel_rfl) (by kernel_rfl) ?_ (Or.inl ⟨?_, ?_⟩) (by assumption) ?_
    rotate_left 2
    · (simp only [List.getElem?_toArray, List.getElem?_cons_zero]; rfl)
    · exact fun _ _ _ h => h
    · rfl
    · (intro w hSw; (try dsimp only at hSw); go_simp; try with_reducible rfl)
    simp only [Act.put, List.setIfInBounds_toArray, List.set_cons_zero, List.set_cons_succ]
    refine wpAnyH_take (i := 1) (oi := ?_) (v := ?_) ?_ (by kernel_rfl) (by kernel_rfl) (by kernel_rfl) ?_ (Or.inl ⟨?_, ?_⟩) (by assumption) ?_
    rotate_left 2
    · (simp only [List.getElem?_toArray, List.getElem?_cons_succ, List.getElem?_cons_zero]; rfl)
    · exact fun _ _ _ h => h
    · rfl
    · (intro w hSw; (try dsimp only at hSw); go_simp; try with_reducible rfl)
    simp only [Act.put, List.setIfInBounds_toArray, List.set_cons_zero, List.set_cons_succ]
    refine wpAnyH_take (i := 2) (oi := ?_) (v := ?_) ?_ (by kernel_rfl) (by kernel_rfl) (by kernel_rfl) ?_ (Or.inl ⟨?_, ?_⟩) (by assumption) ?_
    rotate_left 2
    · (simp only [List.getElem?_toArray, List.getElem?_cons_succ, List.getElem?_cons_zero]; rfl)
    · exact fun _ _ _ h => h
    · rfl
    · (intro w hSw; (try dsimp only at hSw); go_simp; try with_reducible rfl)
    simp only [Act.put, List.setIfInBounds_toArray, List.set_cons_zero, List.set_cons_succ]
    refine wpAnyH_take (i := 3) (oi := ?_) (v := undef) ?_ (by kernel_rfl) (by kernel_rfl) (by kernel_rfl) ?_ (Or.inr ⟨?_, rfl⟩) (by assumption) ?_
    rotate_left 1
    · (simp only [List.getElem?_toArray, List.getElem?_cons_succ, List.getElem?_cons_zero]; rfl)
    · exact fun _ _ _ h => h
    · rfl
    simp only [Act.put, List.setIfInBounds_toArray, List.set_cons_zero, List.set_cons_succ]
    refine wpAnyH_take (i := 4) (oi := ?_) (v := undef) ?_ (by kernel_rfl) (by kernel_rfl) (by kernel_rfl) ?_ (Or.inr ⟨?_, rfl⟩) (by assumption) ?_
    rotate_left 1
    · (simp only [List.getElem?_toArray, List.getElem?_cons_succ, List.getElem?_cons_zero]; rfl)
    · exact fun _ _ _ h => h
    · rfl
    simp only [Act.put, List.setIfInBounds_toArray, List.set_cons_zero, List.set_cons_succ]
    refine wpAnyH_take (i := 5) (oi := ?_) (v := undef) ?_ (by kernel_rfl) (by kernel_rfl) (by kernel_rfl) ?_ (Or.inr ⟨?_, rfl⟩) (by assumption) ?_
    rotate_left 1
    · (simp only [List.getElem?_toArray, List.getElem?_cons_succ, List.getElem?_cons_zero]; rfl)
    · exact fun _ _ _ h => h
    · rfl
    simp only [Act.put, List.setIfInBounds_toArray, List.set_cons_zero, List.set_cons_succ]
    refine wpAnyH_take (i := 6) (oi := ?_) (v := undef) ?_ (by kernel_rfl) (by kernel_rfl) (by kernel_rfl) ?_ (Or.inr ⟨?_, rfl⟩) (by assumption) ?_
    rotate_left 1
    · (simp only [List.getElem?_toArray, List.getElem?_cons_succ, List.getElem?_cons_zero]; rfl)
    · exact fun _ _ _ h => h
    · rfl
    simp only [Act.put, List.setIfInBounds_toArray, List.set_cons_zero, List.set_cons_succ]
    refine wpAnyH_take (i := 7) (oi := ?_) (v := undef) ?_ (by kernel_rfl) (by kernel_rfl) (by kernel_rfl) ?_ (Or.inr ⟨?_, rfl⟩) (by assumption) ?_
    rotate_left 1
    · (simp only [List.getElem?_toArray, List.getElem?_cons_succ, List.getElem?_cons_zero]; rfl)
    · exact fun _ _ _ h => h
    · rfl
    simp only [Act.put, List.setIfInBounds_toArray, List.set_cons_zero, List.set_cons_succ]
    refine wpAnyH_take (i := 8) (oi := ?_) (v := undef) ?_ (by kernel_rfl) (by kernel_rfl) (by kernel_rfl) ?_ (Or.inr ⟨?_, rfl⟩) (by assumption) ?_
    rotate_left 1
    · (simp only [List.getElem?_toArray, List.getElem?_cons_succ, List.getElem?_cons_zero]; rfl)
    · exact fun _ _ _ h => h
    · rfl
    simp only [Act.put, List.setIfInBounds_toArray, List.set_cons_zero, List.set_cons_succ]
    refine wpAnyH_take (i := 9) (oi := ?_) (v := undef) ?_ (by kernel_rfl) (by kernel_rfl) (by kernel_rfl) ?_ (Or.inr ⟨?_, rfl⟩) (by assumption) ?_
    rotate_left 1
    · (simp only [List.getElem?_toArray, List.getElem?_cons_succ, List.getElem?_cons_zero]; rfl)
    · exact fun _ _ _ h => h
    · rfl
    simp only [Act.put, List.setIfInBounds_toArray, List.set_cons_zero, List.set_cons_succ]
    refine wpAnyH_take (i := 10) (oi := ?_) (v := undef) ?_ (by kernel_rfl) (by kernel_rfl) (by kernel_rfl) ?_ (Or.inr ⟨?_, rfl⟩) (by assumption) ?_
    rotate_left 1
    · (simp only [List.getElem?_toArray, List.getElem?_cons_succ, List.getElem?_cons_zero]; rfl)
    · exact fun _ _ _ h => h
    · rfl
    simp only [Act.put, List.setIfInBounds_toArray, List.set_cons_zero, List.set_cons_succ]
    refine wpAnyH_take (i := 11) (oi := ?_) (v := undef) ?_ (by kernel_rfl) (by kernel_rfl) (by kernel_rfl) ?_ (Or.inr ⟨?_, rfl⟩) (by assumption) ?_
    rotate_left 1
    · (simp only [List.getElem?_toArray, List.getElem?_cons_succ, List.getElem?_cons_zero]; rfl)
    · exact fun _ _ _ h => h
    · rfl
    simp only [Act.put, List.setIfInBounds_toArray, List.set_cons_zero, List.set_cons_succ]
    refine wpAnyH_take (i := 12) (oi := ?_) (v := undef) ?_ (by kernel_rfl) (by kernel_rfl) (by kernel_rfl) ?_ (Or.inr ⟨?_, rfl⟩) (by assumption) ?_
    rotate_left 1
    · (simp only [List.getElem?_toArray, List.getElem?_cons_succ, List.getElem?_cons_zero]; rfl)
    · exact fun _ _ _ h => h
    · rfl
    simp only [Act.put, List.setIfInBounds_toArray, List.set_cons_zero, List.set_cons_succ]
    refine wpAnyH_take (i := 13) (oi := ?_) (v := ?_) ?_ (by kernel_rfl) (by kernel_rfl) (by kernel_rfl) ?_ (Or.inl ⟨?_, ?_⟩) (by assumption) ?_
    rotate_left 2
    · (simp only [List.getElem?_toArray, List.getElem?_cons_succ, List.getElem?_cons_zero]; rfl)
    · exact fun _ _ _ h => h
    · rfl
    · (intro w hSw; (try dsimp only at hSw); go_simp; try with_reducible rfl)
    simp only [Act.put, List.setIfInBounds_toArray, List.set_cons_zero, List.set_cons_succ]
    refine wpAnyH_done (by kernel_rfl) ?_ _
    go_wp2_with fail
    go_ret
    exact ⟨rfl, HB0.out.trans (hB.mono HB0.out.size)⟩
end Go.Proofs.YtbhkfemebionnaaGreatDoor

namespace Go.Proofs.YtbhkfemebionnaaGreatDoor
open Go.RowKit

set_option maxRecDepth 100000 in
set_option maxHeartbeats 16000000 in
theorem nmoves_any (A : Option Addr) (n c : Nat) (l : List Mv) (w : World) (hl : shMv.In w A n l) (hok : MvsOK l) (hc1 : n ≤ c) :
    Calls Tryz.prog 52 #[.slice A n c] w fun e w' => e = .returned (.int .i64 0) ∧ Below w.heap.size w w' := by
  have hn : n = l.length := hl.1
  subst hn
  have gn : ¬ (128 : Int) < (l.length : Int) := by have := hok.few; omega
  have HL := Lib.hid hl
  have HOk := Lib.hid hok
  clear hl hok
  go_enter Tryz.func52, Tryz.ntmps52
  go_wp2_with fail
  go_loopw [11] (fun iv wr => ∃ k : Nat, k ≤ l.length ∧ iv = .int .i64 k ∧ Below w.heap.size w wr) (fun iv _ => l.length - (intOf iv).toNat)
  case atStart => exact ⟨0, Nat.zero_le _, rfl, Below.refl _ _⟩
  case round =>
    obtain ⟨k, hk, rfl, hBr⟩ := hrel
    have HBr := Lib.hid hBr
    clear hBr
    by_cases hlt : k < l.length
    · have i0 : (0 : Int) ≤ (k : Int) := by omega
      have i1 : (k : Int) < (l.length : Int) := by omega
      have i2 : (k : Int) ≤ (c : Int) := by omega
      have w0 : IntKind.i64.wrap ((k : Int) + 1) = (k : Int) + 1 := IntWalk.i64_in _ (by omega)
      obtain ⟨b, o, rfl, hbl, hcell⟩ := mv_at HL.out (by omega)
      have hck := hcell k hlt
      have hmo := HOk.out.ok l[k] (List.getElem_mem hlt)
      have HPr := Lib.hid (show 0 < k → ∃ qc qa, (∀ V, Below w.heap.size w V → V.cell? ⟨b, o + (k - 1) * 5, none⟩ = some (.int .i64 qc) ∧ V.cell? ⟨b, o + (k - 1) * 5 + 1, none⟩ = some (.int .i64 qa)) ∧ parOK qc qa ∧ ltP qc qa l[k].ch l[k].atr from fun h0 => by
        have hq := hcell (k - 1) (by omega)
        exact ⟨_, _, fun V hV => ⟨(hV.cell (p := ⟨b, o + (k - 1) * 5, none⟩) hbl).trans hq.1, (hV.cell (p := ⟨b, o + (k - 1) * 5 + 1, none⟩) hbl).trans hq.2.1⟩, (HOk.out.ok (l[k - 1]'(by omega)) (List.getElem_mem _)).1, List.pairwise_iff_getElem.1 HOk.out.up (k - 1) k (by omega) hlt (by omega)⟩)
      generalize l[k] = m at *
      obtain ⟨ch, atr, pa, le, pt⟩ := m
      obtain ⟨q0, q1, q2, q3, q4⟩ := hck
      have q0 : w.cell? ⟨b, o + k * 5, none⟩ = some (.int .i64 ch) := q0
      have q1 : w.cell? ⟨b, o + k * 5 + 1, none⟩ = some (.int .i64 atr) := q1
      have q2 : w.cell? ⟨b, o + k * 5 + 2, none⟩ = some (.int .i64 pa) := q2
      have q3 : w.cell? ⟨b, o + k * 5 + 3, none⟩ = some (.int .i64 le) := q3
      have q4 : w.cell? ⟨b, o + k * 5 + 4, none⟩ = some (.int .i64 pt) := q4
      have p0 := (HBr.out.cell (p := ⟨b, o + k * 5, none⟩) hbl).trans q0
      have p1 := (HBr.out.cell (p := ⟨b, o + k * 5 + 1, none⟩) hbl).trans q1
      have p2 := (HBr.out.cell (p := ⟨b, o + k * 5 + 2, none⟩) hbl).trans q2
      have p3 := (HBr.out.cell (p := ⟨b, o + k * 5 + 3, none⟩) hbl).trans q3
      have p4 := (HBr.out.cell (p := ⟨b, o + k * 5 + 4, none⟩) hbl).trans q4
      have hbw := Nat.lt_of_lt_of_le hbl HBr.out.size
      obtain ⟨W, hW⟩ : ∃ W, W = wr.alloc (.cells #[.int .i64 ch, .int .i64 atr, .int .i64 pa, .int .i64 le, .int .i64 pt] 43) := ⟨_, rfl⟩
      have hB0 : Below wr.heap.size wr W := by rw [hW]; exact (Below.refl _ _).alloc (Nat.le_refl _) _
      have hcW : Cells W wr.heap.size [.int .i64 ch, .int .i64 atr, .int .i64 pa, .int .i64 le, .int .i64 pt] := by rw [hW]; exact Cells.fresh wr [.int .i64 ch, .int .i64 atr, .int .i64 pa, .int .i64 le, .int .i64 pt] _
      have HK := Lib.hid (show ∀ V, Below W.heap.size W V → V.cell? ⟨wr.heap.size, 0, none⟩ = some (.int .i64 ch) ∧ V.cell? ⟨wr.heap.size, 1, none⟩ = some (.int .i64 atr) ∧ V.cell? ⟨wr.heap.size, 2, none⟩ = some (.int .i64 pa) ∧ V.cell? ⟨wr.heap.size, 3, none⟩ = some (.int .i64 le) ∧ V.cell? ⟨wr.heap.size, 4, none⟩ = some (.int .i64 pt) ∧ wr.heap.size < V.heap.size from fun V h => by
        have hc := hcW.below h hcW.1
        exact ⟨hc.at_ (j := 0) rfl, hc.at_ (j := 1) rfl, hc.at_ (j := 2) rfl, hc.at_ (j := 3) rfl, hc.at_ (j := 4) rfl, hc.1⟩)
      have HW := Lib.hid hW
      have HB0 := Lib.hid (HBr.out.trans (hB0.mono HBr.out.size))
      have hB := Below.refl W.heap.size W
      have HM := Lib.hid (fun V (h : Below w.heap.size w V) => nmove_any ch atr pa le pt (some ⟨b, o, none⟩) k c V hmo (by omega) (fun h0 => by
        obtain ⟨qc, qa, hy, hp, hlt⟩ := HPr.out h0
        exact ⟨b, o, qc, qa, rfl, Nat.lt_of_lt_of_le hbl h.size, (hy V h).1, (hy V h).2, hp, hlt⟩))
      clear hcell hmo q0 q1 q2 q3 q4 hW hB0 hcW
      go_wp2_with fail
      rw [← HW.out]
      clear p0 p1 p2 p3 p4
      replace hB := below_drewN hB 1
      obtain ⟨c0, c1, c2, c3, c4, hsz⟩ := HK.out _ hB
      refine wp_region_held_drew (S := fun w' => w'.cell? ⟨wr.heap.size, 0, none⟩ = some (.int .i64 ch) ∧ w'.cell? ⟨wr.heap.size, 1, none⟩ = some (.int .i64 atr) ∧ w'.cell? ⟨wr.heap.size, 2, none⟩ = some (.int .i64 pa) ∧ w'.cell? ⟨wr.heap.size, 3, none⟩ = some (.int .i64 le) ∧ w'.cell? ⟨wr.heap.size, 4, none⟩ = some (.int .i64 pt)) (by kernel_rfl) (by first | exact ⟨c0, c1, c2, c3, c4⟩) (fun hHeld => ?_)
      refine wpAnyH_take (i := 0) (oi := ?_) (v := ?_) ?_ (by kernel_rfl) (by kernel_rfl) (by kernel_rfl) ?_ (Or.inl ⟨?_, ?_⟩) (by assumption) ?_
      rotate_left 2
      · (simp only [List.getElem?_toArray, List.getElem?_cons_zero]; rfl)
      · exact fun _ _ _ h => h
      · rfl
      · (intro w hSw; (try dsimp only at hSw); go_simp; try with_reducible rfl)
      simp only [Act.put, List.setIfInBounds_toArray, List.set_cons_zero, List.set_cons_succ]
      refine wpAnyH_take (i := 1) (oi := ?_) (v := ?_) ?_ (by kernel_rfl) (by kernel_rfl) (by kernel_rfl) ?_ (Or.inl ⟨?_, ?_⟩) (by assumption) ?_
      rotate_left 2
      · (simp only [List.getElem?_toArray, List.getElem?_cons_succ, List.getElem?_cons_zero]; rfl)
      · exact fun _ _ _ h => h
      · rfl
      · (intro w hSw; (try dsimp only at hSw); go_simp; try with_reducible rfl)
      simp only [Act.put, List.setIfInBounds_toArray, List.set_cons_zero, List.set_cons_succ]
      refine wpAnyH_take (i := 2) (oi := ?_) (v := ?_) ?_ (by kernel_rfl) (by kernel_rfl) (by kernel_rfl) ?_ (Or.inl ⟨?_, ?_⟩) (by assumption) ?_
      rotate_left 2
      · (simp only [List.getElem?_toArray, List.getElem?_cons_succ, List.getElem?_cons_zero]; rfl)
      · exact fun _ _ _ h => h
      · rfl
      · (intro w hSw; (try dsimp only at hSw); go_simp; try with_reducible rfl)
      simp only [Act.put, List.setIfInBounds_toArray, List.set_cons_zero, List.set_cons_succ]
      refine wpAnyH_take (i := 3) (oi := ?_) (v := ?_) ?_ (by kernel_rfl) (by kernel_rfl) (by kernel_rfl) ?_ (Or.inl ⟨?_, ?_⟩) (by assumption) ?_
      rotate_left 2
      · (simp only [List.getElem?_toArray, List.getElem?_cons_succ, List.getElem?_cons_zero]; rfl)
      · exact fun _ _ _ h => h
      · rfl
      · (intro w hSw; (try dsimp only at hSw); go_simp; try with_reducible rfl)
      simp only [Act.put, List.setIfInBounds_toArray, List.set_cons_zero, List.set_cons_succ]
      refine wpAnyH_ready (rs := [4]) (by kernel_rfl) (by simp) ?_
      refine AllReadyH.cons rfl (fun K hK => ?_) AllReadyH.nil
      go_simp
      go_at_call 77; refine (HM.out _ (HB0.out.trans (hB.mono HB0.out.size))).mono ?_; rintro e w9 ⟨rfl, hb⟩; replace hB := hB.trans (hb.mono hB.size); clear hb; obtain ⟨c0, c1, c2, c3, c4, hsz⟩ := HK.out _ hB
      go_wp2_with fail
      refine hK.out _ _ (by first | exact ⟨c0, c1, c2, c3, c4⟩) (fun hHeld => ?_)
      clear hK K
      try simp only [Act.put, List.setIfInBounds_toArray, List.set_cons_zero, List.set_cons_succ]
      refine wpAnyH_take (i := 5) (oi := ?_) (v := ?_) ?_ (by kernel_rfl) (by kernel_rfl) (by kernel_rfl) ?_ (Or.inl ⟨?_, ?_⟩) (by assumption) ?_
      rotate_left 2
      · (simp only [List.getElem?_toArray, List.getElem?_cons_succ, List.getElem?_cons_zero]; rfl)
      · exact fun _ _ _ h => h
      · rfl
      · (intro w hSw; (try dsimp only at hSw); go_simp; try with_reducible rfl)
      simp only [Act.put, List.setIfInBounds_toArray, List.set_cons_zero, List.set_cons_succ]
      refine wpAnyH_done (by kernel_rfl) ?_ _
      go_wp2_with fail
      go_roundw
      case rel => exact ⟨k + 1, by omega, by go_num, HB0.out.trans (hB.mono HB0.out.size)⟩
      case measure => simp [intOf]; omega
    · obtain rfl : k = l.length := by omega
      go_wp2_with fail
      go_ret
      exact ⟨rfl, HBr.out⟩
set_option maxRecDepth 100000 in
set_option maxHeartbeats 8000000 in
theorem nlabel_any (s : ByteArray) (w : World) (hok : labOK s.data.toList) :
    Calls Tryz.prog 50 #[.string s] w fun e w' => e = .returned (.int .i64 0) ∧ Below w.heap.size w w' := by
  have gn : ¬ (24 : Int) < (s.size : Int) := by have := hok.1; rw [bytes_len] at this; omega
  have HOk := Lib.hid (show ∀ i (h : i < s.size), 32 ≤ s[i].toNat ∧ s[i].toNat ≤ 126 ∧ s[i].toNat ≠ 34 from fun i h => hok.2 _ (by
    have e1 : s.data.toList[i]'(by rw [bytes_len]; exact h) = s[i] := rfl
    rw [← e1]; exact List.getElem_mem _))
  have HN := Lib.hid (show s.size ≤ 24 by have := hok.1; rw [bytes_len] at this; omega)
  clear hok
  have hcv := Lib.run_convert_string_bytes (P := Tryz.prog) w 9 118 5 s (u := .string) Tryz.underlying9 Tryz.underlying118 Tryz.underlying5
  obtain ⟨W, hW⟩ : ∃ W, W = Lib.bytesWorld w 5 s := ⟨_, rfl⟩
  rw [← hW] at hcv
  have hbw : Below w.heap.size w W := by rw [hW]; exact Lib.bytesWorld_below _ _ _
  have hsz : W.heap.size = w.heap.size + 1 := by rw [hW]; exact Lib.bytesWorld_size _ _ _
  have hcb : ∀ j, j < s.size → W.cell? ⟨w.heap.size, j, none⟩ = some (.int .u8 (s.data.toList.getD j 0).toNat) := fun j hj => by rw [hW]; exact Lib.bytesWorld_cell _ _ _ _ hj
  have HCb := Lib.hid hcb
  have HS := Lib.hid hsz
  have HB0 := Lib.hid hbw
  clear hW hbw hsz hcb
  go_enter Tryz.func50, Tryz.ntmps50
  go_wp2_with fail
  go_loopw [11] (fun iv wr => ∃ k : Nat, k ≤ s.size ∧ iv = .int .i64 k ∧ Below W.heap.size W wr) (fun iv _ => s.size - (intOf iv).toNat)
  case atStart => exact ⟨0, Nat.zero_le _, rfl, Below.refl _ _⟩
  case round =>
    obtain ⟨k, hk, rfl, hBr⟩ := hrel
    have HBr := Lib.hid hBr
    by_cases hlt : k < s.size
    · have i0 : (0 : Int) ≤ (k : Int) := by omega
      have i1 : (k : Int) < (s.size : Int) := by omega
      have w0 : IntKind.i64.wrap ((k : Int) + 1) = (k : Int) + 1 := IntWalk.i64_in _ (by have := HN.out; omega)
      have hbw : w.heap.size < wr.heap.size := by have := HS.out; have := HBr.out.size; omega
      have p0 : wr.cell? ⟨w.heap.size, k, none⟩ = some (.int .u8 (s.data.toList.getD k 0).toNat) := (hBr.cell (p := ⟨w.heap.size, k, none⟩) (by have := HS.out; show w.heap.size < _; omega)).trans (HCb.out k hlt)
      rw [show s.data.toList.getD k 0 = s[k] from by rw [List.getD_eq_getElem?_getD, List.getElem?_eq_getElem (by rw [bytes_len]; exact hlt)]; rfl] at p0
      obtain ⟨a1, a2, a3⟩ := HOk.out k hlt
      generalize s[k] = c at *
      have l1 : ¬ ((c.toNat : Nat) : Int) < 32 := by omega
      have l2 : ¬ (126 : Int) < ((c.toNat : Nat) : Int) := by omega
      have l3 : ¬ ((c.toNat : Nat) : Int) = 34 := by omega
      have l4 : (((c.toNat : Nat) : Int) == 34) = false := by simpa using l3
      clear a1 a2 a3
      go_wp2_with fail
      go_roundw
      case rel => exact ⟨k + 1, by omega, by go_num, HBr.out⟩
      case measure => simp [intOf]; omega
    · obtain rfl : k = s.size := by omega
      go_wp2_with fail
      go_ret
      exact ⟨rfl, HB0.out.trans (HBr.out.mono HB0.out.size)⟩
end Go.Proofs.YtbhkfemebionnaaGreatDoor

namespace Go.Proofs.YtbhkfemebionnaaGreatDoor
open Go.RowKit

set_option maxRecDepth 100000 in
set_option maxHeartbeats 16000000 in
theorem nnext_any (num lab : ByteArray) (MA : Option Addr) (mn mc : Nat) (PA : Option Addr) (pn pc : Nat) (blk mrk : Bool) (fol : Int) (lnk : ByteArray) (lps : Int) (w : World) (hs : lnk.size ≤ 9223372036854775807) (hx : NxOK fol lnk lps) :
    Calls Tryz.prog 54 #[.agg #[.string num, .string lab, .slice MA mn mc, .slice PA pn pc, .bool blk, .bool mrk, .int .i64 fol, .string lnk, .int .i64 lps]] w fun e w' => e = .returned (.int .i64 0) ∧ Below w.heap.size w w' := by
  have HC := Lib.hid (fun w => nchk_any lnk w hs)
  obtain ⟨hf, hk, ⟨hp1, hp2⟩, hu⟩ := hx
  have k1 : ¬ lps < 0 := by omega
  have k2 : ¬ 100 < lps := by omega
  obtain ⟨W, hW⟩ : ∃ W, W = w.alloc (.cells #[.string num, .string lab, .slice MA mn mc, .slice PA pn pc, .bool blk, .bool mrk, .int .i64 fol, .string lnk, .int .i64 lps] 34) := ⟨_, rfl⟩
  have hB0 : Below w.heap.size w W := by rw [hW]; exact (Below.refl _ _).alloc (Nat.le_refl _) _
  have hcW : Cells W w.heap.size [.string num, .string lab, .slice MA mn mc, .slice PA pn pc, .bool blk, .bool mrk, .int .i64 fol, .string lnk, .int .i64 lps] := by rw [hW]; exact Cells.fresh w [.string num, .string lab, .slice MA mn mc, .slice PA pn pc, .bool blk, .bool mrk, .int .i64 fol, .string lnk, .int .i64 lps] _
  have HK := Lib.hid (show ∀ V, Below W.heap.size W V → V.cell? ⟨w.heap.size, 6, none⟩ = some (.int .i64 fol) ∧ V.cell? ⟨w.heap.size, 7, none⟩ = some (.string lnk) ∧ V.cell? ⟨w.heap.size, 8, none⟩ = some (.int .i64 lps) ∧ w.heap.size < V.heap.size from fun V h => by
    have hc := hcW.below h hcW.1
    exact ⟨hc.at_ (j := 6) rfl, hc.at_ (j := 7) rfl, hc.at_ (j := 8) rfl, hc.1⟩)
  have HW := Lib.hid hW
  have HB0 := Lib.hid hB0
  have hB := Below.refl W.heap.size W
  clear hW hB0 hcW hs hp1 hp2
  have HT : lnk.toList = [] ↔ lnk = ⟨#[]⟩ := by
    constructor
    · intro h
      exact ByteArray.ext (Array.ext' (by rw [← h]; exact (ByteArray.toList_eq _).symm))
    · rintro rfl; exact ByteArray.toList_eq _
  have HFo : Hid (fol = -1 ∨ (25 ≤ fol ∧ fol ≤ 10000000)) := Lib.hid hf
  clear hf
  by_cases hl : lnk.toList = []
  · have hlb : (lnk.toList == []) = true := by rw [hl]; rfl
    have hlc : lnk.toList.isEmpty = true := by rw [hl]; rfl
    have k3 : lps = 0 := hu (HT.1 hl)
    subst k3
    clear HT hu hk
    rcases HFo.out with rfl | ⟨f1, f2⟩
    · go_enter Tryz.func54, Tryz.ntmps54
      go_wp2_with fail
      try (rw [← HW.out]; obtain ⟨c6, c7, c8, hsz⟩ := HK.out _ hB; refine (HC.out _).mono ?_; rintro e w7 ⟨rfl, hb⟩; replace hB := hB.trans (hb.mono hB.size); clear hb c6 c7 c8 hsz; obtain ⟨c6, c7, c8, hsz⟩ := HK.out _ hB; go_wp2_with fail)
      go_ret
      exact ⟨rfl, by first | exact HB0.out.trans (hB.mono HB0.out.size) | (rw [← HW.out]; exact HB0.out)⟩
    · have g1 : ¬ fol = -1 := by omega
      have g1b : (fol != -1) = true := by simpa using g1
      have g2 : ¬ fol < 25 := by omega
      have g3 : ¬ 10000000 < fol := by omega
      go_enter Tryz.func54, Tryz.ntmps54
      go_wp2_with fail
      try (rw [← HW.out]; obtain ⟨c6, c7, c8, hsz⟩ := HK.out _ hB; refine (HC.out _).mono ?_; rintro e w7 ⟨rfl, hb⟩; replace hB := hB.trans (hb.mono hB.size); clear hb c6 c7 c8 hsz; obtain ⟨c6, c7, c8, hsz⟩ := HK.out _ hB; go_wp2_with fail)
      go_ret
      exact ⟨rfl, by first | exact HB0.out.trans (hB.mono HB0.out.size) | (rw [← HW.out]; exact HB0.out)⟩
  · have hlb : (lnk.toList == []) = false := by simpa using hl
    have hlc : lnk.toList.isEmpty = false := by simpa using hl
    have hz : numE lnk.data.toList = 0 := hk.resolve_left (fun h => hl (HT.2 h))
    rw [hz] at HC
    clear HT hu hk hz
    by_cases k3 : 0 < lps
    · rcases HFo.out with rfl | ⟨f1, f2⟩
      · go_enter Tryz.func54, Tryz.ntmps54
        go_wp2_with fail
        try (rw [← HW.out]; obtain ⟨c6, c7, c8, hsz⟩ := HK.out _ hB; refine (HC.out _).mono ?_; rintro e w7 ⟨rfl, hb⟩; replace hB := hB.trans (hb.mono hB.size); clear hb c6 c7 c8 hsz; obtain ⟨c6, c7, c8, hsz⟩ := HK.out _ hB; go_wp2_with fail)
        go_ret
        exact ⟨rfl, by first | exact HB0.out.trans (hB.mono HB0.out.size) | (rw [← HW.out]; exact HB0.out)⟩
      · have g1 : ¬ fol = -1 := by omega
        have g1b : (fol != -1) = true := by simpa using g1
        have g2 : ¬ fol < 25 := by omega
        have g3 : ¬ 10000000 < fol := by omega
        go_enter Tryz.func54, Tryz.ntmps54
        go_wp2_with fail
        try (rw [← HW.out]; obtain ⟨c6, c7, c8, hsz⟩ := HK.out _ hB; refine (HC.out _).mono ?_; rintro e w7 ⟨rfl, hb⟩; replace hB := hB.trans (hb.mono hB.size); clear hb c6 c7 c8 hsz; obtain ⟨c6, c7, c8, hsz⟩ := HK.out _ hB; go_wp2_with fail)
        go_ret
        exact ⟨rfl, by first | exact HB0.out.trans (hB.mono HB0.out.size) | (rw [← HW.out]; exact HB0.out)⟩
    · rcases HFo.out with rfl | ⟨f1, f2⟩
      · go_enter Tryz.func54, Tryz.ntmps54
        go_wp2_with fail
        try (rw [← HW.out]; obtain ⟨c6, c7, c8, hsz⟩ := HK.out _ hB; refine (HC.out _).mono ?_; rintro e w7 ⟨rfl, hb⟩; replace hB := hB.trans (hb.mono hB.size); clear hb c6 c7 c8 hsz; obtain ⟨c6, c7, c8, hsz⟩ := HK.out _ hB; go_wp2_with fail)
        go_ret
        exact ⟨rfl, by first | exact HB0.out.trans (hB.mono HB0.out.size) | (rw [← HW.out]; exact HB0.out)⟩
      · have g1 : ¬ fol = -1 := by omega
        have g1b : (fol != -1) = true := by simpa using g1
        have g2 : ¬ fol < 25 := by omega
        have g3 : ¬ 10000000 < fol := by omega
        go_enter Tryz.func54, Tryz.ntmps54
        go_wp2_with fail
        try (rw [← HW.out]; obtain ⟨c6, c7, c8, hsz⟩ := HK.out _ hB; refine (HC.out _).mono ?_; rintro e w7 ⟨rfl, hb⟩; replace hB := hB.trans (hb.mono hB.size); clear hb c6 c7 c8 hsz; obtain ⟨c6, c7, c8, hsz⟩ := HK.out _ hB; go_wp2_with fail)
        go_ret
        exact ⟨rfl, by first | exact HB0.out.trans (hB.mono HB0.out.size) | (rw [← HW.out]; exact HB0.out)⟩
end Go.Proofs.YtbhkfemebionnaaGreatDoor

namespace Go.Proofs.YtbhkfemebionnaaGreatDoor
open Go.RowKit

set_option maxHeartbeats 4000000 in
theorem nck1_any (num lab : ByteArray) (MA : Option Addr) (mn mc : Nat) (PA : Option Addr) (pn pc : Nat) (blk mrk : Bool) (fol : Int) (lnk : ByteArray) (lps : Int) (hs : num.size ≤ 9223372036854775807) (h : numE num.data.toList = 0) (w : World) :
    Calls Tryz.prog 47 #[.agg #[.string num, .string lab, .slice MA mn mc, .slice PA pn pc, .bool blk, .bool mrk, .int .i64 fol, .string lnk, .int .i64 lps]] w fun e w' => e = .returned (.int .i64 0) ∧ Below w.heap.size w w' := by
  have hB0 : Below w.heap.size w (w.alloc (.cells #[.string num, .string lab, .slice MA mn mc, .slice PA pn pc, .bool blk, .bool mrk, .int .i64 fol, .string lnk, .int .i64 lps] 34)) := (Below.refl _ _).alloc (Nat.le_refl _) _
  have HC := Lib.hid (show ∀ V, Below w.heap.size w V → Calls Tryz.prog 48 #[.string num] V fun e w' => e = .returned (.int .i64 0) ∧ Below V.heap.size V w' from fun V hV => by have := nchk_any num V hs; rw [h] at this; exact this)
  go_enter Tryz.func47, Tryz.ntmps47
  go_wp2_with (go_at_call 48; refine (HC.out _ hB0).mono ?_; rintro e w7 ⟨rfl, hb⟩)
  go_ret
  exact ⟨rfl, hB0.trans (hb.mono hB0.size)⟩
set_option maxHeartbeats 4000000 in
theorem nck2_any (num lab : ByteArray) (MA : Option Addr) (mn mc : Nat) (PA : Option Addr) (pn pc : Nat) (blk mrk : Bool) (fol : Int) (lnk : ByteArray) (lps : Int) (h : labOK lab.data.toList) (w : World) :
    Calls Tryz.prog 49 #[.agg #[.string num, .string lab, .slice MA mn mc, .slice PA pn pc, .bool blk, .bool mrk, .int .i64 fol, .string lnk, .int .i64 lps]] w fun e w' => e = .returned (.int .i64 0) ∧ Below w.heap.size w w' := by
  have hB0 : Below w.heap.size w (w.alloc (.cells #[.string num, .string lab, .slice MA mn mc, .slice PA pn pc, .bool blk, .bool mrk, .int .i64 fol, .string lnk, .int .i64 lps] 34)) := (Below.refl _ _).alloc (Nat.le_refl _) _
  have HC := Lib.hid (show ∀ V, Below w.heap.size w V → Calls Tryz.prog 50 #[.string lab] V fun e w' => e = .returned (.int .i64 0) ∧ Below V.heap.size V w' from fun V hV => nlabel_any lab V h)
  go_enter Tryz.func49, Tryz.ntmps49
  go_wp2_with (go_at_call 50; refine (HC.out _ hB0).mono ?_; rintro e w7 ⟨rfl, hb⟩)
  go_ret
  exact ⟨rfl, hB0.trans (hb.mono hB0.size)⟩
set_option maxHeartbeats 4000000 in
theorem nck3_any (num lab : ByteArray) (MA : Option Addr) (mn mc : Nat) (PA : Option Addr) (pn pc : Nat) (blk mrk : Bool) (fol : Int) (lnk : ByteArray) (lps : Int) (ms : List Mv) (h : MvsOK ms) (hc : mn ≤ mc) (w : World) (hl : shMv.In w MA mn ms) :
    Calls Tryz.prog 51 #[.agg #[.string num, .string lab, .slice MA mn mc, .slice PA pn pc, .bool blk, .bool mrk, .int .i64 fol, .string lnk, .int .i64 lps]] w fun e w' => e = .returned (.int .i64 0) ∧ Below w.heap.size w w' := by
  have hB0 : Below w.heap.size w (w.alloc (.cells #[.string num, .string lab, .slice MA mn mc, .slice PA pn pc, .bool blk, .bool mrk, .int .i64 fol, .string lnk, .int .i64 lps] 34)) := (Below.refl _ _).alloc (Nat.le_refl _) _
  have HC := Lib.hid (show ∀ V, Below w.heap.size w V → Calls Tryz.prog 52 #[.slice MA mn mc] V fun e w' => e = .returned (.int .i64 0) ∧ Below V.heap.size V w' from fun V hV => nmoves_any MA mn mc ms V (hl.below hV) h hc)
  go_enter Tryz.func51, Tryz.ntmps51
  go_wp2_with (go_at_call 52; refine (HC.out _ hB0).mono ?_; rintro e w7 ⟨rfl, hb⟩)
  go_ret
  exact ⟨rfl, hB0.trans (hb.mono hB0.size)⟩
end Go.Proofs.YtbhkfemebionnaaGreatDoor

namespace Go.Proofs.YtbhkfemebionnaaGreatDoor
open Go.RowKit

set_option maxHeartbeats 4000000 in
theorem nparts1_any (B : Nat) (PA : Option Addr) (pn pc : Nat) (ch atr pa le pt : Int) (w : World) (hb : B < w.heap.size) (hc : w.cell? ⟨B, 3, none⟩ = some (.slice PA pn pc)) (hp : pt ≤ pn) :
    Calls Tryz.prog 79 #[.agg #[.int .i64 ch, .int .i64 atr, .int .i64 pa, .int .i64 le, .int .i64 pt], .pointer (some ⟨B, 0, none⟩)] w fun e w' => e = .returned (.bool false) ∧ Below w.heap.size w w' := by
  have hB0 : Below w.heap.size w (w.alloc (.cells #[.int .i64 ch, .int .i64 atr, .int .i64 pa, .int .i64 le, .int .i64 pt] 43)) := (Below.refl _ _).alloc (Nat.le_refl _) _
  have hc2 := (hB0.cell (p := ⟨B, 3, none⟩) hb).trans hc
  have g : ¬ (pn : Int) < pt := by omega
  have hne : B ≠ w.heap.size := by omega
  have hbw := Nat.lt_of_lt_of_le hb hB0.size
  go_enter Tryz.func79, Tryz.ntmps79
  go_wp2_with fail
  go_ret
  exact ⟨rfl, hB0⟩
set_option maxRecDepth 100000 in
set_option maxHeartbeats 8000000 in
theorem nidxm_any (B : Nat) (PA : Option Addr) (pn pc : Nat) (A : Option Addr) (n c : Nat) (l : List Mv) (w : World) (hl : shMv.In w A n l) (hb : B < w.heap.size) (hc : w.cell? ⟨B, 3, none⟩ = some (.slice PA pn pc)) (hp : ∀ m ∈ l, m.pt ≤ pn) (hn : n ≤ 9223372036854775807) :
    Calls Tryz.prog 103 #[.slice A n c, .func (.func 79) #[] #[.pointer (some ⟨B, 0, none⟩)]] w fun e w' => e = .returned (.int .i64 (-1)) ∧ Below w.heap.size w w' := by
  have hn2 : n = l.length := hl.1
  subst hn2
  have e79 := enters_of Tryz.func79 (by kernel_rfl) rfl
  have HL := Lib.hid hl
  have HP := Lib.hid hp
  have HB := Lib.hid hb
  have HCc := Lib.hid hc
  clear hl hp hb hc
  go_enter Tryz.func103, Tryz.ntmps103
  go_wp2_with fail
  go_loopw [8] (fun iv wr => ∃ k : Nat, k ≤ l.length ∧ iv = .int .i64 k ∧ Below w.heap.size w wr) (fun iv _ => l.length - (intOf iv).toNat)
  case atStart => exact ⟨0, Nat.zero_le _, rfl, Below.refl _ _⟩
  case round =>
    obtain ⟨k, hk, rfl, hBr⟩ := hrel
    have HBr := Lib.hid hBr
    by_cases hlt : k < l.length
    · have i0 : (0 : Int) ≤ (k : Int) := by omega
      have i1 : (k : Int) < (l.length : Int) := by omega
      have w0 : IntKind.i64.wrap ((k : Int) + 1) = (k : Int) + 1 := IntWalk.i64_in _ (by omega)
      obtain ⟨b, o, rfl, hbl, hcell⟩ := mv_at HL.out (by omega)
      have hck := hcell k hlt
      have hpk := HP.out l[k] (List.getElem_mem hlt)
      generalize l[k] = m at *
      obtain ⟨ch, atr, pa, le, pt⟩ := m
      obtain ⟨q0, q1, q2, q3, q4⟩ := hck
      have p0 : wr.cell? ⟨b, o + k * 5, none⟩ = some (.int .i64 ch) := (hBr.cell (p := ⟨b, o + k * 5, none⟩) hbl).trans q0
      have p1 : wr.cell? ⟨b, o + k * 5 + 1, none⟩ = some (.int .i64 atr) := (hBr.cell (p := ⟨b, o + k * 5 + 1, none⟩) hbl).trans q1
      have p2 : wr.cell? ⟨b, o + k * 5 + 2, none⟩ = some (.int .i64 pa) := (hBr.cell (p := ⟨b, o + k * 5 + 2, none⟩) hbl).trans q2
      have p3 : wr.cell? ⟨b, o + k * 5 + 3, none⟩ = some (.int .i64 le) := (hBr.cell (p := ⟨b, o + k * 5 + 3, none⟩) hbl).trans q3
      have p4 : wr.cell? ⟨b, o + k * 5 + 4, none⟩ = some (.int .i64 pt) := (hBr.cell (p := ⟨b, o + k * 5 + 4, none⟩) hbl).trans q4
      have hbw := Nat.lt_of_lt_of_le hbl HBr.out.size
      have HM := Lib.hid (nparts1_any B PA pn pc ch atr pa le pt wr (Nat.lt_of_lt_of_le HB.out hBr.size) ((hBr.cell (p := ⟨B, 3, none⟩) HB.out).trans HCc.out) hpk)
      clear hcell hpk q0 q1 q2 q3 q4
      go_wp2_with (go_at_call 79; with_reducible refine HM.out.mono ?_; rintro e w7 ⟨rfl, hb7⟩)
      go_roundw
      case rel => exact ⟨k + 1, by omega, by go_num, HBr.out.trans (hb7.mono HBr.out.size)⟩
      case measure => simp [intOf]; omega
    · obtain rfl : k = l.length := by omega
      go_wp2_with fail
      go_ret
      exact ⟨rfl, HBr.out⟩
end Go.Proofs.YtbhkfemebionnaaGreatDoor

namespace Go.Proofs.YtbhkfemebionnaaGreatDoor
open Go.RowKit

set_option maxHeartbeats 4000000 in
theorem ncontm_any (B : Nat) (PA : Option Addr) (pn pc : Nat) (A : Option Addr) (n c : Nat) (l : List Mv) (w : World) (hl : shMv.In w A n l) (hb : B < w.heap.size) (hc : w.cell? ⟨B, 3, none⟩ = some (.slice PA pn pc)) (hp : ∀ m ∈ l, m.pt ≤ pn) (hn : n ≤ 9223372036854775807) :
    Calls Tryz.prog 78 #[.slice A n c, .func (.func 79) #[] #[.pointer (some ⟨B, 0, none⟩)]] w fun e w' => e = .returned (.bool false) ∧ Below w.heap.size w w' := by
  have HC := Lib.hid (nidxm_any B PA pn pc A n c l w hl hb hc hp hn)
  clear hl hb hc hp hn
  go_enter Tryz.func78, Tryz.ntmps78
  go_wp2_with (go_at_call 103; refine HC.out.mono ?_; rintro e w7 ⟨rfl, hb7⟩)
  go_ret
  exact ⟨rfl, hb7⟩
set_option maxRecDepth 100000 in
set_option maxHeartbeats 16000000 in
theorem nparts_any (num lab : ByteArray) (MA : Option Addr) (mn mc : Nat) (PA : Option Addr) (pn pc : Nat) (blk mrk : Bool) (fol : Int) (lnk : ByteArray) (lps : Int) (ms : List Mv) (ts : List Tm) (w : World) (hx1 : shMv.In w MA mn ms) (hx2 : shTm.In w PA pn ts) (ht1 : 1 ≤ ts.length) (ht4 : ts.length ≤ 4) (hts : ∀ t ∈ ts, t.ok) (hpt : ∀ m ∈ ms, m.pt ≤ ts.length) (hmn : mn ≤ 9223372036854775807) :
    Calls Tryz.prog 53 #[.agg #[.string num, .string lab, .slice MA mn mc, .slice PA pn pc, .bool blk, .bool mrk, .int .i64 fol, .string lnk, .int .i64 lps]] w fun e w' => e = .returned (.int .i64 0) ∧ Below w.heap.size w w' := by
  have hp : pn = ts.length := hx2.1
  subst hp
  obtain ⟨W, hW⟩ : ∃ W, W = w.alloc (.cells #[.string num, .string lab, .slice MA mn mc, .slice PA ts.length pc, .bool blk, .bool mrk, .int .i64 fol, .string lnk, .int .i64 lps] 34) := ⟨_, rfl⟩
  have hB0 : Below w.heap.size w W := by rw [hW]; exact (Below.refl _ _).alloc (Nat.le_refl _) _
  have hcW : Cells W w.heap.size [.string num, .string lab, .slice MA mn mc, .slice PA ts.length pc, .bool blk, .bool mrk, .int .i64 fol, .string lnk, .int .i64 lps] := by rw [hW]; exact Cells.fresh w [.string num, .string lab, .slice MA mn mc, .slice PA ts.length pc, .bool blk, .bool mrk, .int .i64 fol, .string lnk, .int .i64 lps] _
  have HK := Lib.hid (show ∀ V, Below W.heap.size W V → V.cell? ⟨w.heap.size, 2, none⟩ = some (.slice MA mn mc) ∧ V.cell? ⟨w.heap.size, 3, none⟩ = some (.slice PA ts.length pc) ∧ w.heap.size < V.heap.size from fun V h => by
    have hc := hcW.below h hcW.1
    exact ⟨hc.at_ (j := 2) rfl, hc.at_ (j := 3) rfl, hc.1⟩)
  have HW := Lib.hid hW
  have HB0 := Lib.hid hB0
  have HX1 := Lib.hid (hx1.below hB0)
  have HX2 := Lib.hid (hx2.below hB0)
  have HTs := Lib.hid hts
  have HPt := Lib.hid hpt
  have HMn := Lib.hid hmn
  have HN := Lib.hid ht4
  have g0 : ¬ (ts.length : Int) = 0 := by omega
  have g0b : ((ts.length : Int) == 0) = false := by simpa using g0
  have g4 : ¬ (4 : Int) < (ts.length : Int) := by omega
  clear hW hB0 hcW hx1 hx2 hts hpt ht1 ht4 hmn
  have hmf : ∀ (fn : Fn) (first cap : Array Value) (w : World), (Instr.makeFunc fn first cap).run Tryz.prog w = .ok (.func fn first cap) w := fun _ _ _ _ => rfl
  obtain ⟨c2, c3, hsz⟩ := HK.out _ (Below.refl _ _)
  go_enter Tryz.func53, Tryz.ntmps53
  go_wp2_with fail
  rw [← HW.out]
  go_wp2_with fail
  clear c2 c3 hsz
  go_loopw [20] (fun iv wr => ∃ k : Nat, k ≤ ts.length ∧ iv = .int .i64 k ∧ Below W.heap.size W wr) (fun iv _ => ts.length - (intOf iv).toNat)
  case atStart => exact ⟨0, Nat.zero_le _, rfl, Below.refl _ _⟩
  case round =>
    obtain ⟨k, hk, rfl, hB⟩ := hrel
    have HBr := Lib.hid hB
    by_cases hlt : k < ts.length
    · have i0 : (0 : Int) ≤ (k : Int) := by omega
      have i1 : (k : Int) < (ts.length : Int) := by omega
      have w0 : IntKind.i64.wrap ((k : Int) + 1) = (k : Int) + 1 := IntWalk.i64_in _ (by have := HN.out; omega)
      obtain ⟨b, o, rfl, hbl, hcell⟩ := tm_at HX2.out (by omega)
      have hck := hcell k hlt
      have hok := HTs.out ts[k] (List.getElem_mem hlt)
      generalize ts[k] = m at *
      obtain ⟨t0, t1, t2, t3, t4, t5⟩ := m
      obtain ⟨q0, q1, q2, q3, q4, q5⟩ := hck
      have p0 : wr.cell? ⟨b, o + k * 6, none⟩ = some (.int .i64 t0) := (hB.cell (p := ⟨b, o + k * 6, none⟩) hbl).trans q0
      have p1 : wr.cell? ⟨b, o + k * 6 + 1, none⟩ = some (.int .i64 t1) := (hB.cell (p := ⟨b, o + k * 6 + 1, none⟩) hbl).trans q1
      have p2 : wr.cell? ⟨b, o + k * 6 + 2, none⟩ = some (.int .i64 t2) := (hB.cell (p := ⟨b, o + k * 6 + 2, none⟩) hbl).trans q2
      have p3 : wr.cell? ⟨b, o + k * 6 + 3, none⟩ = some (.int .i64 t3) := (hB.cell (p := ⟨b, o + k * 6 + 3, none⟩) hbl).trans q3
      have p4 : wr.cell? ⟨b, o + k * 6 + 4, none⟩ = some (.int .i64 t4) := (hB.cell (p := ⟨b, o + k * 6 + 4, none⟩) hbl).trans q4
      have p5 : wr.cell? ⟨b, o + k * 6 + 5, none⟩ = some (.int .i64 t5) := (hB.cell (p := ⟨b, o + k * 6 + 5, none⟩) hbl).trans q5
      have hbw := Nat.lt_of_lt_of_le hbl HBr.out.size
      have HOk := Lib.hid (show (0 ≤ t0 ∧ t0 ≤ 10000000) ∧ (0 ≤ t1 ∧ t1 ≤ 10000000) ∧ (0 ≤ t2 ∧ t2 ≤ 10000000) ∧ (0 ≤ t3 ∧ t3 ≤ 10000000) ∧ (0 ≤ t4 ∧ t4 ≤ 10000000) ∧ (0 ≤ t5 ∧ t5 ≤ 10000000) from hok)
      clear hcell hok q0 q1 q2 q3 q4 q5
      go_wp2_with fail
      go_loopw [37] (fun iv wq => ∃ j : Nat, j ≤ 6 ∧ iv = .int .i64 j ∧ Below W.heap.size W wq) (fun iv _ => 6 - (intOf iv).toNat)
      case atStart => exact ⟨0, by omega, rfl, hB.alloc hB.size _⟩
      case round =>
        obtain ⟨j, hj, rfl, hBq⟩ := hrel
        have hBq := Lib.hid hBq
        obtain rfl | rfl | rfl | rfl | rfl | rfl | rfl : j = 0 ∨ j = 1 ∨ j = 2 ∨ j = 3 ∨ j = 4 ∨ j = 5 ∨ j = 6 := by omega
        · have a1 : ¬ t0 < 0 := by have := HOk.out.1; omega
          have a2 : ¬ 10000000 < t0 := by have := HOk.out.1; omega
          have hx : ∀ w, (Instr.index 120 (.agg #[.int .i64 t0, .int .i64 t1, .int .i64 t2, .int .i64 t3, .int .i64 t4, .int .i64 t5]) (.int .i64 0)).run Tryz.prog w = .ok (.int .i64 t0) w := fun w => by kernel_rfl
          go_wp2_with fail
          go_roundw
          case rel => exact ⟨1, by omega, by go_num, hBq.out⟩
          case measure => simp [intOf]
        · have a1 : ¬ t1 < 0 := by have := HOk.out.2.1; omega
          have a2 : ¬ 10000000 < t1 := by have := HOk.out.2.1; omega
          have hx : ∀ w, (Instr.index 120 (.agg #[.int .i64 t0, .int .i64 t1, .int .i64 t2, .int .i64 t3, .int .i64 t4, .int .i64 t5]) (.int .i64 1)).run Tryz.prog w = .ok (.int .i64 t1) w := fun w => by kernel_rfl
          go_wp2_with fail
          go_roundw
          case rel => exact ⟨2, by omega, by go_num, hBq.out⟩
          case measure => simp [intOf]
        · have a1 : ¬ t2 < 0 := by have := HOk.out.2.2.1; omega
          have a2 : ¬ 10000000 < t2 := by have := HOk.out.2.2.1; omega
          have hx : ∀ w, (Instr.index 120 (.agg #[.int .i64 t0, .int .i64 t1, .int .i64 t2, .int .i64 t3, .int .i64 t4, .int .i64 t5]) (.int .i64 2)).run Tryz.prog w = .ok (.int .i64 t2) w := fun w => by kernel_rfl
          go_wp2_with fail
          go_roundw
          case rel => exact ⟨3, by omega, by go_num, hBq.out⟩
          case measure => simp [intOf]
        · have a1 : ¬ t3 < 0 := by have := HOk.out.2.2.2.1; omega
          have a2 : ¬ 10000000 < t3 := by have := HOk.out.2.2.2.1; omega
          have hx : ∀ w, (Instr.index 120 (.agg #[.int .i64 t0, .int .i64 t1, .int .i64 t2, .int .i64 t3, .int .i64 t4, .int .i64 t5]) (.int .i64 3)).run Tryz.prog w = .ok (.int .i64 t3) w := fun w => by kernel_rfl
          go_wp2_with fail
          go_roundw
          case rel => exact ⟨4, by omega, by go_num, hBq.out⟩
          case measure => simp [intOf]
        · have a1 : ¬ t4 < 0 := by have := HOk.out.2.2.2.2.1; omega
          have a2 : ¬ 10000000 < t4 := by have := HOk.out.2.2.2.2.1; omega
          have hx : ∀ w, (Instr.index 120 (.agg #[.int .i64 t0, .int .i64 t1, .int .i64 t2, .int .i64 t3, .int .i64 t4, .int .i64 t5]) (.int .i64 4)).run Tryz.prog w = .ok (.int .i64 t4) w := fun w => by kernel_rfl
          go_wp2_with fail
          go_roundw
          case rel => exact ⟨5, by omega, by go_num, hBq.out⟩
          case measure => simp [intOf]
        · have a1 : ¬ t5 < 0 := by have := HOk.out.2.2.2.2.2; omega
          have a2 : ¬ 10000000 < t5 := by have := HOk.out.2.2.2.2.2; omega
          have hx : ∀ w, (Instr.index 120 (.agg #[.int .i64 t0, .int .i64 t1, .int .i64 t2, .int .i64 t3, .int .i64 t4, .int .i64 t5]) (.int .i64 5)).run Tryz.prog w = .ok (.int .i64 t5) w := fun w => by kernel_rfl
          go_wp2_with fail
          go_roundw
          case rel => exact ⟨6, by omega, by go_num, hBq.out⟩
          case measure => simp [intOf]
        · go_wp2_with fail
          go_roundw
          case rel => exact ⟨k + 1, by omega, by go_num, hBq.out⟩
          case measure => simp [intOf]; omega
    · obtain rfl : k = ts.length := by omega
      obtain ⟨c2, c3, hsz⟩ := HK.out _ hB
      have HC := Lib.hid (ncontm_any w.heap.size PA ts.length pc MA mn mc ms wr (HX1.out.below hB) hsz c3 HPt.out HMn.out)
      go_wp2_with (go_at_call 78; refine HC.out.mono ?_; rintro e w7 ⟨rfl, hb7⟩)
      go_ret
      exact ⟨rfl, HB0.out.trans ((hB.trans (hb7.mono hB.size)).mono HB0.out.size)⟩
end Go.Proofs.YtbhkfemebionnaaGreatDoor
