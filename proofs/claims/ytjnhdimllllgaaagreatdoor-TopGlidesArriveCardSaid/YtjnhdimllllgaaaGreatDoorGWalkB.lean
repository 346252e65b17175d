/- Lemmas and contracts of functions, joined for the claim: Law3e, Law3f. -/
import Derived.Test.YtjnhdimllllgaaaGreatDoorGGlideC
import Derived.Test.YtjnhdimllllgaaaGreatDoorGGlideA
import Derived.Test.YtjnhdimllllgaaaGreatDoorGOpen
import Derived.Test.YtjnhdimllllgaaaGreatDoorGWalkA
namespace Go.Proofs.YtjnhdimllllgaaaGreatDoor
open Go.RowKit

theorem inOne (w : World) (t : TypeId) (b : Nat) (hb : b = w.heap.size) (g : Gl) : shG.In (w.alloc (.cells #[.string g.s, .int .i64 g.v, .int .i64 g.st, .int .i64 g.ti] t)) (some ⟨b, 0, none⟩) 1 [g] := Sh.In.fresh (S := shG) w [g] t b hb
theorem fewG_one (g : Gl) : fewG [g] = decide (g.s.size ≤ 120) := by
  unfold fewG
  simp

theorem lv_up {r : Rat} {v st ti x y : Int} (h : 0 ≤ ti) (hx : x ≤ y) : (r ≤ (v : Rat) → lvR r v st ti x ≤ lvR r v st ti y) ∧ ((v : Rat) ≤ r → lvR r v st ti y ≤ lvR r v st ti x) :=
  ⟨fun h1 => mix_up h1 (way_up h hx), fun h1 => mix_down h1 (way_up h hx)⟩
theorem lv_end {r : Rat} {v st ti t : Int} (h : st + ti ≤ t) : lvR r v st ti t = (v : Rat) := by unfold lvR wayR; rw [if_pos h, mix_1]
theorem ord_ge {a b : Rat} (h : b ≤ a) : 0 ≤ ordR a b := Int.not_lt.1 fun h2 => Rat.not_lt.2 h (ordR_neg.1 h2)
theorem ord_le {a b : Rat} (h : a ≤ b) : ordR a b ≤ 0 := Int.not_lt.1 fun h2 => Rat.not_lt.2 h (ordR_pos.1 h2)
set_option maxRecDepth 100000 in
set_option maxHeartbeats 8000000 in
theorem gmono_walk (w : World) (s : ByteArray) (v st ti x y : Int) (x0 : -9223372036854775808 ≤ x) (x1 : x ≤ 9223372036854775807) (y0 : -9223372036854775808 ≤ y) (y1 : y ≤ 9223372036854775807) (ht : Tab w) :
    Calls Tryz.prog 6 #[.agg #[.string s, .int .i64 v, .int .i64 st, .int .i64 ti], .int .i64 x, .int .i64 y] w fun e w' => e = .returned (.bool true) ∧ Below w.heap.size w w' := by
  have HAw := Lib.hid (fun w ht => gawake_any w ht)
  have HF := Lib.hid (fun A c w hl => r3few_any A 1 c [⟨s, v, st, ti⟩] w hl (by decide))
  rw [fewG_one] at HF
  obtain ⟨W, hW⟩ : ∃ W, W = w.alloc (.cells #[.string s, .int .i64 v, .int .i64 st, .int .i64 ti] 24) := ⟨_, rfl⟩
  have hG := GBx.fresh w s v st ti
  have hB0 : Below w.heap.size w W := by rw [hW]; exact (Below.refl _ w).alloc (Nat.le_refl _) _
  rw [← hW] at hG
  have HP := Lib.hid hG.lt
  have HG := Lib.hid hG
  have HW := Lib.hid hW
  have HB0 := Lib.hid hB0
  have hB := Below.refl W.heap.size W
  obtain ⟨-, c0, c1, c2, c3⟩ := hG
  clear hW hB0
  have HT := Lib.hid (ht.below HB0.out)
  have HsW := Lib.hid (show W.heap.size = w.heap.size + 1 by rw [HW.out]; simp)
  clear ht
  by_cases hfew : s.size ≤ 120
  · rw [show decide ((⟨s, v, st, ti⟩ : Gl).s.size ≤ 120) = true from decide_eq_true hfew] at HF
    have hs1 : s.size ≤ 1000 := by omega
    have HC := Lib.hid (fun w => r3check_any s v st ti w hs1)
    by_cases herr : errG s.data.toList v st ti = 0
    · rw [herr] at HC
      by_cases hxy : x ≤ y
      · have g1 : ¬ y < x := by omega
        obtain ⟨r, hr, _, hv, hi, v0, v1, s0, s1, i0, i1⟩ := errG_zero hs1 herr
        have hz : SzR 120 r := size_SzR hr hfew (by decide)
        have hA := fun w ht => gat_any s v st ti x w hs1 x0 x1 ht
        have hBt := fun w ht => gat_any s v st ti y w hs1 y0 y1 ht
        have hD := fun w ht => gdone_any s v st ti y w hs1 ht
        have e1 : atT s v st ti x = sR (lvR r v st ti x) := by unfold atT; rw [if_neg (fun hn => hn herr), hr, ofT_lv]
        have e2 : atT s v st ti y = sR (lvR r v st ti y) := by unfold atT; rw [if_neg (fun hn => hn herr), hr, ofT_lv]
        have e3 : doneT s v st ti y = decide (st + ti ≤ y) := by unfold doneT; rw [herr]; simp
        rw [e1, herr] at hA
        rw [e2, herr] at hBt
        rw [e3, herr] at hD
        have hzA : SzR (120 + (5 + 120 + 1 + 8) + 1) (lvR r v st ti x) := lv_sz hz v0 v1 i0 i1
        have hzB : SzR (120 + (5 + 120 + 1 + 8) + 1) (lvR r v st ti y) := lv_sz hz v0 v1 i0 i1
        have hzV : SzR 5 (v : Rat) := SzR.int (by omega) (by decide)
        have hlA := fun w => r3level_any (sR (lvR r v st ti x)) w (Nat.le_trans hzA.len (by decide))
        have hlB := fun w => r3level_any (sR (lvR r v st ti y)) w (Nat.le_trans hzB.len (by decide))
        rw [errLv_of hzA (by decide) (lv_in i0 hi v0 v1)] at hlA
        rw [errLv_of hzB (by decide) (lv_in i0 hi v0 v1)] at hlB
        have hW := fun w => swhole_fit (x := v) (by omega) (by omega) w
        have hO1 := fun w => sorder_fit hz hzV w (by decide) (by decide)
        have hO2 := fun w => sorder_fit hzA hzB w (by decide) (by decide)
        have hO3 := fun w => sorder_fit hzA hz w (by decide) (by decide)
        have hO4 := fun w => sorder_fit hzB hzV w (by decide) (by decide)
        obtain ⟨u1, u2⟩ := lv_up (r := r) (v := v) (st := st) i0 hxy
        obtain ⟨bA1, bA2⟩ := lv_bd (r := r) (v := v) (st := st) (t := x) i0
        obtain ⟨bB1, bB2⟩ := lv_bd (r := r) (v := v) (st := st) (t := y) i0
        have hend : st + ti ≤ y → sR (lvR r v st ti y) = sR (v : Rat) := fun h => by rw [lv_end h]
        have hcase : (0 < ordR r (v : Rat) ∧ 0 ≤ ordR (lvR r v st ti x) (lvR r v st ti y) ∧ ordR (lvR r v st ti x) r ≤ 0 ∧ 0 ≤ ordR (lvR r v st ti y) (v : Rat)) ∨ (¬ 0 < ordR r (v : Rat) ∧ ordR (lvR r v st ti x) (lvR r v st ti y) ≤ 0 ∧ 0 ≤ ordR (lvR r v st ti x) r ∧ ordR (lvR r v st ti y) (v : Rat) ≤ 0) := by
          by_cases ho : 0 < ordR r (v : Rat)
          · have hlt := ordR_pos.1 ho
            have hle : (v : Rat) ≤ r := Rat.le_of_lt hlt
            exact .inl ⟨ho, ord_ge (u2 hle), ord_le (bA2 hle).2, ord_ge (bB2 hle).1⟩
          · have hle : r ≤ (v : Rat) := Rat.not_lt.1 fun h => ho (ordR_pos.2 h)
            exact .inr ⟨ho, ord_le (u1 hle), ord_ge (bA1 hle).1, ord_le (bB1 hle).2⟩
        rw [← hr] at hO1 hO3
        generalize sR (lvR r v st ti x) = SA at *
        generalize sR (lvR r v st ti y) = SB at *
        generalize sR (v : Rat) = SV at *
        generalize ordR (lvR r v st ti x) (lvR r v st ti y) = o2 at *
        generalize ordR (lvR r v st ti x) r = o3 at *
        generalize ordR (lvR r v st ti y) (v : Rat) = o4 at *
        generalize ordR r (v : Rat) = o1 at *
        have HA := Lib.hid hA
        have HBt := Lib.hid hBt
        have HD := Lib.hid hD
        have HlA := Lib.hid hlA
        have HlB := Lib.hid hlB
        have HW1 := Lib.hid hW
        have HO1 := Lib.hid hO1
        have HO2 := Lib.hid hO2
        have HO3 := Lib.hid hO3
        have HO4 := Lib.hid hO4
        clear hA hBt hD hlA hlB hW hO1 hO2 hO3 hO4 hr hv hi hz hzA hzB hzV u1 u2 bA1 bA2 bB1 bB2 e1 e2 e3 herr
        have hE : ∃ d : Bool, decide (st + ti ≤ y) = d ∧ (d = true → (!SB.toList == SV.toList) = false) := ⟨_, rfl, fun h => by rw [hend (of_decide_eq_true h), bytes_beq, decide_eq_true rfl]; rfl⟩
        obtain ⟨d, hd, hE⟩ := hE
        rw [hd] at HD
        clear hd hend
        rcases hcase with ⟨p1, p2, p3, p4⟩ | ⟨p1, p2, p3, p4⟩ <;> cases d
        all_goals
          try have hE := hE rfl
          go_enter Tryz.func6, Tryz.ntmps6
          go_wp2_with fail
          rw [← HW.out]
          go_wp2_with (first | (go_at_call 16; refine (HF.out _ _ _ (inOne _ _ _ HsW.out.symm ⟨s, v, st, ti⟩)).mono ?_; rintro e wk ⟨rfl, hb⟩; replace hB := (hB.alloc hB.size _).trans (hb.mono (hB.alloc hB.size _).size); clear hb; obtain ⟨-, c0, c1, c2, c3⟩ := HG.out.below HP.out hB) | (go_at_call 25; with_reducible refine (HC.out _).mono ?_; rintro e wk ⟨rfl, hb⟩; replace hB := hB.trans (hb.mono hB.size); clear hb; obtain ⟨-, c0, c1, c2, c3⟩ := HG.out.below HP.out hB) | (go_at_call 28; with_reducible refine (HA.out _ (HT.out.below hB)).mono ?_; rintro e wk ⟨rfl, hb⟩; replace hB := hB.trans (hb.mono hB.size); clear hb; obtain ⟨-, c0, c1, c2, c3⟩ := HG.out.below HP.out hB) | (go_at_call 28; with_reducible refine (HBt.out _ (HT.out.below hB)).mono ?_; rintro e wk ⟨rfl, hb⟩; replace hB := hB.trans (hb.mono hB.size); clear hb; obtain ⟨-, c0, c1, c2, c3⟩ := HG.out.below HP.out hB) | (go_at_call 30; with_reducible refine (HD.out _ (HT.out.below hB)).mono ?_; rintro e wk ⟨rfl, hb⟩; replace hB := hB.trans (hb.mono hB.size); clear hb; obtain ⟨-, c0, c1, c2, c3⟩ := HG.out.below HP.out hB) | (go_at_call 31; with_reducible refine (HlA.out _).mono ?_; rintro e wk ⟨rfl, hb⟩; replace hB := hB.trans (hb.mono hB.size); clear hb; obtain ⟨-, c0, c1, c2, c3⟩ := HG.out.below HP.out hB) | (go_at_call 31; with_reducible refine (HlB.out _).mono ?_; rintro e wk ⟨rfl, hb⟩; replace hB := hB.trans (hb.mono hB.size); clear hb; obtain ⟨-, c0, c1, c2, c3⟩ := HG.out.below HP.out hB) | (go_at_call 32; with_reducible refine (HW1.out _).mono ?_; rintro e wk ⟨rfl, hb⟩; replace hB := hB.trans (hb.mono hB.size); clear hb; obtain ⟨-, c0, c1, c2, c3⟩ := HG.out.below HP.out hB) | (go_at_call 33; with_reducible refine (HO1.out _).mono ?_; rintro e wk ⟨rfl, hb⟩; replace hB := hB.trans (hb.mono hB.size); clear hb; obtain ⟨-, c0, c1, c2, c3⟩ := HG.out.below HP.out hB) | (go_at_call 33; with_reducible refine (HO2.out _).mono ?_; rintro e wk ⟨rfl, hb⟩; replace hB := hB.trans (hb.mono hB.size); clear hb; obtain ⟨-, c0, c1, c2, c3⟩ := HG.out.below HP.out hB) | (go_at_call 33; with_reducible refine (HO3.out _).mono ?_; rintro e wk ⟨rfl, hb⟩; replace hB := hB.trans (hb.mono hB.size); clear hb; obtain ⟨-, c0, c1, c2, c3⟩ := HG.out.below HP.out hB) | (go_at_call 33; with_reducible refine (HO4.out _).mono ?_; rintro e wk ⟨rfl, hb⟩; replace hB := hB.trans (hb.mono hB.size); clear hb; obtain ⟨-, c0, c1, c2, c3⟩ := HG.out.below HP.out hB) | (go_at_call 13; with_reducible refine (HAw.out _ (HT.out.below hB)).mono ?_; rintro e wk ⟨rfl, hb⟩; replace hB := hB.trans (hb.mono hB.size); clear hb; obtain ⟨-, c0, c1, c2, c3⟩ := HG.out.below HP.out hB))
          go_ret
          exact ⟨rfl, HB0.out.trans (hB.mono HB0.out.size)⟩
      · have g1 : y < x := by omega
        go_enter Tryz.func6, Tryz.ntmps6
        go_wp2_with fail
        rw [← HW.out]
        go_wp2_with (first | (go_at_call 16; refine (HF.out _ _ _ (inOne _ _ _ HsW.out.symm ⟨s, v, st, ti⟩)).mono ?_; rintro e wk ⟨rfl, hb⟩; replace hB := (hB.alloc hB.size _).trans (hb.mono (hB.alloc hB.size _).size); clear hb; obtain ⟨-, c0, c1, c2, c3⟩ := HG.out.below HP.out hB) | (go_at_call 25; with_reducible refine (HC.out _).mono ?_; rintro e wk ⟨rfl, hb⟩; replace hB := hB.trans (hb.mono hB.size); clear hb; obtain ⟨-, c0, c1, c2, c3⟩ := HG.out.below HP.out hB) | (go_at_call 13; with_reducible refine (HAw.out _ (HT.out.below hB)).mono ?_; rintro e wk ⟨rfl, hb⟩; replace hB := hB.trans (hb.mono hB.size); clear hb; obtain ⟨-, c0, c1, c2, c3⟩ := HG.out.below HP.out hB))
        go_ret
        exact ⟨rfl, HB0.out.trans (hB.mono HB0.out.size)⟩
    · generalize errG s.data.toList v st ti = k at *
      have g1 : (k == 0) = false := by simpa using herr
      have g2 : (k != 0) = true := by simpa using herr
      go_enter Tryz.func6, Tryz.ntmps6
      go_wp2_with fail
      rw [← HW.out]
      go_wp2_with (first | (go_at_call 16; refine (HF.out _ _ _ (inOne _ _ _ HsW.out.symm ⟨s, v, st, ti⟩)).mono ?_; rintro e wk ⟨rfl, hb⟩; replace hB := (hB.alloc hB.size _).trans (hb.mono (hB.alloc hB.size _).size); clear hb; obtain ⟨-, c0, c1, c2, c3⟩ := HG.out.below HP.out hB) | (go_at_call 25; with_reducible refine (HC.out _).mono ?_; rintro e wk ⟨rfl, hb⟩; replace hB := hB.trans (hb.mono hB.size); clear hb; obtain ⟨-, c0, c1, c2, c3⟩ := HG.out.below HP.out hB) | (go_at_call 13; with_reducible refine (HAw.out _ (HT.out.below hB)).mono ?_; rintro e wk ⟨rfl, hb⟩; replace hB := hB.trans (hb.mono hB.size); clear hb; obtain ⟨-, c0, c1, c2, c3⟩ := HG.out.below HP.out hB))
      go_ret
      exact ⟨rfl, HB0.out.trans (hB.mono HB0.out.size)⟩
  · rw [show decide ((⟨s, v, st, ti⟩ : Gl).s.size ≤ 120) = false from decide_eq_false hfew] at HF
    go_enter Tryz.func6, Tryz.ntmps6
    go_wp2_with fail
    rw [← HW.out]
    go_wp2_with (first | (go_at_call 16; refine (HF.out _ _ _ (inOne _ _ _ HsW.out.symm ⟨s, v, st, ti⟩)).mono ?_; rintro e wk ⟨rfl, hb⟩; replace hB := (hB.alloc hB.size _).trans (hb.mono (hB.alloc hB.size _).size); clear hb; obtain ⟨-, c0, c1, c2, c3⟩ := HG.out.below HP.out hB) | (go_at_call 13; with_reducible refine (HAw.out _ (HT.out.below hB)).mono ?_; rintro e wk ⟨rfl, hb⟩; replace hB := hB.trans (hb.mono hB.size); clear hb; obtain ⟨-, c0, c1, c2, c3⟩ := HG.out.below HP.out hB))
    go_ret
    exact ⟨rfl, HB0.out.trans (hB.mono HB0.out.size)⟩
theorem glide_monotone (w : World) (g : Gl) (_ : g.good) (x : Int) (hx : (Lit.int .i64 x).wf = true) (y : Int) (hy : (Lit.int .i64 y).wf = true) (hL : Laid w) :
    Calls Tryz.prog 6 #[.agg (shG.cs g).toArray, .int .i64 x, .int .i64 y] w fun e w' => e = .returned (.bool true) ∧ Below w.heap.size w w' :=
  gmono_walk w g.s g.v g.st g.ti x y (int_bd hx).1 (int_bd hx).2 (int_bd hy).1 (int_bd hy).2 hL.1
end Go.Proofs.YtjnhdimllllgaaaGreatDoor

namespace Go.Proofs.YtjnhdimllllgaaaGreatDoor
open Go.RowKit

theorem inTwo (w : World) (t : TypeId) (b : Nat) (hb : b = w.heap.size) (g h : Gl) : shG.In (w.alloc (.cells #[.string g.s, .int .i64 g.v, .int .i64 g.st, .int .i64 g.ti, .string h.s, .int .i64 h.v, .int .i64 h.st, .int .i64 h.ti] t)) (some ⟨b, 0, none⟩) 2 [g, h] := Sh.In.fresh (S := shG) w [g, h] t b hb
theorem now_two {g h : Gl} (hst : g.st ≤ h.st) (t : Int) : nowT [g, h] t = if h.st ≤ t then h else g := by
  by_cases h2 : h.st ≤ t
  · rw [if_pos h2]
    have e : ixT (·.st) [g, h] t = 2 := ixT_is (by simp) (fun j hj _ => by
      match j, hj with
      | 0, _ => exact Int.le_trans hst h2
      | 1, _ => exact h2) (fun h3 => by simp at h3)
    unfold nowT; rw [e]; rfl
  · rw [if_neg h2]
    by_cases h1 : g.st ≤ t
    · have e : ixT (·.st) [g, h] t = 1 := ixT_is (by simp) (fun j hj h3 => by
        obtain rfl : j = 0 := by omega
        exact h1) (fun h3 => by show t < h.st; omega)
      unfold nowT; rw [e]; rfl
    · have e : ixT (·.st) [g, h] t = 0 := ixT_zero (fun _ => by show t < g.st; omega)
      unfold nowT; rw [e]; rfl
theorem two_chain {g h : Gl} (hg : g.err = 0) (hh : h.err = 0) (hst : g.st ≤ h.st) (hs : h.s = g.of h.st) : chT [g, h] = 0 ∧ errV [g, h] = 0 ∧ ∀ t, valL [g, h] t = if h.st ≤ t then h.of t else g.of t := by
  have e : chT [g, h] = 0 := by
    unfold chT
    rw [if_neg (by simp), chF_cons, if_neg (fun hn => hn hg)]
    show chF (some g) [h] = 0
    rw [chF_cons, if_neg (fun hn => hn hh)]
    show (if h.st < g.st then (9 : Int) else if h.s ≠ g.of h.st then 3 else chF (some h) []) = 0
    rw [if_neg (by omega), if_neg (fun hn => hn hs), chF_nil]
  have e2 : errV [g, h] = 0 := by unfold errV; rw [e, if_neg (by decide), if_neg (by simp)]
  refine ⟨e, e2, fun t => ?_⟩
  unfold valL
  rw [e2, if_neg (by decide), now_two hst]
  split <;> rfl
set_option maxRecDepth 100000 in
set_option maxHeartbeats 8000000 in
theorem gover_walk (w : World) (s : ByteArray) (v st ti x y z t : Int) (x0 : -9223372036854775808 ≤ x) (x1 : x ≤ 9223372036854775807) (t0 : -9223372036854775808 ≤ t) (t1 : t ≤ 9223372036854775807) (ht : Tab w) :
    Calls Tryz.prog 5 #[.agg #[.string s, .int .i64 v, .int .i64 st, .int .i64 ti], .agg #[.int .i64 x, .int .i64 y, .int .i64 z], .int .i64 t] w fun e w' => e = .returned (.bool true) ∧ Below w.heap.size w w' := by
  have HAw := Lib.hid (fun w ht => gawake_any w ht)
  have HF := Lib.hid (fun A c w hl => r3few_any A 1 c [⟨s, v, st, ti⟩] w hl (by decide))
  rw [fewG_one] at HF
  obtain ⟨W, hW⟩ : ∃ W, W = (w.alloc (.cells #[.string s, .int .i64 v, .int .i64 st, .int .i64 ti] 24)).alloc (.cells #[.int .i64 x, .int .i64 y, .int .i64 z] 26) := ⟨_, rfl⟩
  have hb1 : Below w.heap.size w (w.alloc (.cells #[.string s, .int .i64 v, .int .i64 st, .int .i64 ti] 24)) := (Below.refl _ w).alloc (Nat.le_refl _) _
  have hB0 : Below w.heap.size w W := by rw [hW]; exact hb1.alloc hb1.size _
  have hG0 := GBx.fresh w s v st ti
  have hG : GBx s v st ti w.heap.size W := by rw [hW]; exact hG0.below hG0.lt ((Below.refl _ _).alloc (Nat.le_refl _) _)
  have k0 : W.cell? ⟨w.heap.size + 1, 0, none⟩ = some (.int .i64 x) := by rw [hW, World.cell?_alloc_at _ _ _ _ (by simp)]; rfl
  have k1 : W.cell? ⟨w.heap.size + 1, 1, none⟩ = some (.int .i64 y) := by rw [hW, World.cell?_alloc_at _ _ _ _ (by simp)]; rfl
  have k2 : W.cell? ⟨w.heap.size + 1, 2, none⟩ = some (.int .i64 z) := by rw [hW, World.cell?_alloc_at _ _ _ _ (by simp)]; rfl
  have hlt : w.heap.size + 1 < W.heap.size := by rw [hW]; simp
  have HsW := Lib.hid (show W.heap.size = w.heap.size + 1 + 1 by rw [hW]; simp)
  have HK := Lib.hid (fun w' (h : Below W.heap.size W w') => And.intro (hG.below hG.lt h) (three_keep0 hlt ⟨k0, k1, k2⟩ h))
  have HB0 := Lib.hid hB0
  have HT := Lib.hid (ht.below hB0)
  have HW := Lib.hid hW
  have hB := Below.refl W.heap.size W
  obtain ⟨-, c0, c1, c2, c3⟩ := hG
  clear hW hG0 ht hB0 hb1 hlt
  by_cases hfew : s.size ≤ 120
  · rw [show decide ((⟨s, v, st, ti⟩ : Gl).s.size ≤ 120) = true from decide_eq_true hfew] at HF
    have hs1 : s.size ≤ 1000 := by omega
    have HC := Lib.hid (fun w => r3check_any s v st ti w hs1)
    by_cases herr : errG s.data.toList v st ti = 0
    · rw [herr] at HC
      have HT1 := Lib.hid (fun w => r3timeB x w)
      have HT2 := Lib.hid (fun w => r3timeB z w)
      have HWl := Lib.hid (fun w => r3wholeB y w)
      have hi1 : inT 10000000 x = true → 0 ≤ x ∧ x ≤ 10000000 := fun h => by simpa [inT] using h
      have hi2 : inT 10000000 z = true → 0 ≤ z ∧ z ≤ 10000000 := fun h => by simpa [inT] using h
      have hi3 : inT 65535 y = true → 0 ≤ y ∧ y ≤ 65535 := fun h => by simpa [inT] using h
      have hgo : inT 10000000 x = true → inT 10000000 z = true → inT 65535 y = true → errGo s.data.toList v st ti x y z = 0 := fun a b c => by
        unfold errGo
        rw [herr, if_neg (by decide), a, b, c, if_pos (by decide)]
      generalize inT 10000000 x = b1 at *
      generalize inT 10000000 z = b2 at *
      generalize inT 65535 y = b3 at *
      cases b1 with
      | false =>
        clear hi1 hi2 hi3 hgo
        go_enter Tryz.func5, Tryz.ntmps5
        go_wp2_with fail
        rw [← HW.out]
        go_wp2_with (first | (go_at_call 16; refine (HF.out _ _ _ (inOne _ _ _ HsW.out.symm ⟨s, v, st, ti⟩)).mono ?_; rintro e wk ⟨rfl, hb⟩; replace hB := (hB.alloc hB.size _).trans (hb.mono (hB.alloc hB.size _).size); clear hb; obtain ⟨⟨-, c0, c1, c2, c3⟩, k0, k1, k2⟩ := HK.out _ hB) | (go_at_call 25; with_reducible refine (HC.out _).mono ?_; rintro e wk ⟨rfl, hb⟩; replace hB := hB.trans (hb.mono hB.size); clear hb; obtain ⟨⟨-, c0, c1, c2, c3⟩, k0, k1, k2⟩ := HK.out _ hB) | (go_at_call 26; with_reducible refine (HT1.out _).mono ?_; rintro e wk ⟨rfl, hb⟩; replace hB := hB.trans (hb.mono hB.size); clear hb; obtain ⟨⟨-, c0, c1, c2, c3⟩, k0, k1, k2⟩ := HK.out _ hB) | (go_at_call 27; with_reducible refine (HWl.out _).mono ?_; rintro e wk ⟨rfl, hb⟩; replace hB := hB.trans (hb.mono hB.size); clear hb; obtain ⟨⟨-, c0, c1, c2, c3⟩, k0, k1, k2⟩ := HK.out _ hB) | (go_at_call 26; with_reducible refine (HT2.out _).mono ?_; rintro e wk ⟨rfl, hb⟩; replace hB := hB.trans (hb.mono hB.size); clear hb; obtain ⟨⟨-, c0, c1, c2, c3⟩, k0, k1, k2⟩ := HK.out _ hB) | (go_at_call 13; with_reducible refine (HAw.out _ (HT.out.below hB)).mono ?_; rintro e wk ⟨rfl, hb⟩; replace hB := hB.trans (hb.mono hB.size); clear hb; obtain ⟨⟨-, c0, c1, c2, c3⟩, k0, k1, k2⟩ := HK.out _ hB))
        go_ret
        exact ⟨rfl, HB0.out.trans (hB.mono HB0.out.size)⟩
      | true =>
        cases b3 with
        | false =>
          clear hi1 hi2 hi3 hgo
          go_enter Tryz.func5, Tryz.ntmps5
          go_wp2_with fail
          rw [← HW.out]
          go_wp2_with (first | (go_at_call 16; refine (HF.out _ _ _ (inOne _ _ _ HsW.out.symm ⟨s, v, st, ti⟩)).mono ?_; rintro e wk ⟨rfl, hb⟩; replace hB := (hB.alloc hB.size _).trans (hb.mono (hB.alloc hB.size _).size); clear hb; obtain ⟨⟨-, c0, c1, c2, c3⟩, k0, k1, k2⟩ := HK.out _ hB) | (go_at_call 25; with_reducible refine (HC.out _).mono ?_; rintro e wk ⟨rfl, hb⟩; replace hB := hB.trans (hb.mono hB.size); clear hb; obtain ⟨⟨-, c0, c1, c2, c3⟩, k0, k1, k2⟩ := HK.out _ hB) | (go_at_call 26; with_reducible refine (HT1.out _).mono ?_; rintro e wk ⟨rfl, hb⟩; replace hB := hB.trans (hb.mono hB.size); clear hb; obtain ⟨⟨-, c0, c1, c2, c3⟩, k0, k1, k2⟩ := HK.out _ hB) | (go_at_call 27; with_reducible refine (HWl.out _).mono ?_; rintro e wk ⟨rfl, hb⟩; replace hB := hB.trans (hb.mono hB.size); clear hb; obtain ⟨⟨-, c0, c1, c2, c3⟩, k0, k1, k2⟩ := HK.out _ hB) | (go_at_call 26; with_reducible refine (HT2.out _).mono ?_; rintro e wk ⟨rfl, hb⟩; replace hB := hB.trans (hb.mono hB.size); clear hb; obtain ⟨⟨-, c0, c1, c2, c3⟩, k0, k1, k2⟩ := HK.out _ hB) | (go_at_call 13; with_reducible refine (HAw.out _ (HT.out.below hB)).mono ?_; rintro e wk ⟨rfl, hb⟩; replace hB := hB.trans (hb.mono hB.size); clear hb; obtain ⟨⟨-, c0, c1, c2, c3⟩, k0, k1, k2⟩ := HK.out _ hB))
          go_ret
          exact ⟨rfl, HB0.out.trans (hB.mono HB0.out.size)⟩
        | true =>
          cases b2 with
          | false =>
            clear hi1 hi2 hi3 hgo
            go_enter Tryz.func5, Tryz.ntmps5
            go_wp2_with fail
            rw [← HW.out]
            go_wp2_with (first | (go_at_call 16; refine (HF.out _ _ _ (inOne _ _ _ HsW.out.symm ⟨s, v, st, ti⟩)).mono ?_; rintro e wk ⟨rfl, hb⟩; replace hB := (hB.alloc hB.size _).trans (hb.mono (hB.alloc hB.size _).size); clear hb; obtain ⟨⟨-, c0, c1, c2, c3⟩, k0, k1, k2⟩ := HK.out _ hB) | (go_at_call 25; with_reducible refine (HC.out _).mono ?_; rintro e wk ⟨rfl, hb⟩; replace hB := hB.trans (hb.mono hB.size); clear hb; obtain ⟨⟨-, c0, c1, c2, c3⟩, k0, k1, k2⟩ := HK.out _ hB) | (go_at_call 26; with_reducible refine (HT1.out _).mono ?_; rintro e wk ⟨rfl, hb⟩; replace hB := hB.trans (hb.mono hB.size); clear hb; obtain ⟨⟨-, c0, c1, c2, c3⟩, k0, k1, k2⟩ := HK.out _ hB) | (go_at_call 27; with_reducible refine (HWl.out _).mono ?_; rintro e wk ⟨rfl, hb⟩; replace hB := hB.trans (hb.mono hB.size); clear hb; obtain ⟨⟨-, c0, c1, c2, c3⟩, k0, k1, k2⟩ := HK.out _ hB) | (go_at_call 26; with_reducible refine (HT2.out _).mono ?_; rintro e wk ⟨rfl, hb⟩; replace hB := hB.trans (hb.mono hB.size); clear hb; obtain ⟨⟨-, c0, c1, c2, c3⟩, k0, k1, k2⟩ := HK.out _ hB) | (go_at_call 13; with_reducible refine (HAw.out _ (HT.out.below hB)).mono ?_; rintro e wk ⟨rfl, hb⟩; replace hB := hB.trans (hb.mono hB.size); clear hb; obtain ⟨⟨-, c0, c1, c2, c3⟩, k0, k1, k2⟩ := HK.out _ hB))
            go_ret
            exact ⟨rfl, HB0.out.trans (hB.mono HB0.out.size)⟩
          | true =>
            by_cases hst : x < st
            · clear hi1 hi2 hi3 hgo
              go_enter Tryz.func5, Tryz.ntmps5
              go_wp2_with fail
              rw [← HW.out]
              go_wp2_with (first | (go_at_call 16; refine (HF.out _ _ _ (inOne _ _ _ HsW.out.symm ⟨s, v, st, ti⟩)).mono ?_; rintro e wk ⟨rfl, hb⟩; replace hB := (hB.alloc hB.size _).trans (hb.mono (hB.alloc hB.size _).size); clear hb; obtain ⟨⟨-, c0, c1, c2, c3⟩, k0, k1, k2⟩ := HK.out _ hB) | (go_at_call 25; with_reducible refine (HC.out _).mono ?_; rintro e wk ⟨rfl, hb⟩; replace hB := hB.trans (hb.mono hB.size); clear hb; obtain ⟨⟨-, c0, c1, c2, c3⟩, k0, k1, k2⟩ := HK.out _ hB) | (go_at_call 26; with_reducible refine (HT1.out _).mono ?_; rintro e wk ⟨rfl, hb⟩; replace hB := hB.trans (hb.mono hB.size); clear hb; obtain ⟨⟨-, c0, c1, c2, c3⟩, k0, k1, k2⟩ := HK.out _ hB) | (go_at_call 27; with_reducible refine (HWl.out _).mono ?_; rintro e wk ⟨rfl, hb⟩; replace hB := hB.trans (hb.mono hB.size); clear hb; obtain ⟨⟨-, c0, c1, c2, c3⟩, k0, k1, k2⟩ := HK.out _ hB) | (go_at_call 26; with_reducible refine (HT2.out _).mono ?_; rintro e wk ⟨rfl, hb⟩; replace hB := hB.trans (hb.mono hB.size); clear hb; obtain ⟨⟨-, c0, c1, c2, c3⟩, k0, k1, k2⟩ := HK.out _ hB) | (go_at_call 13; with_reducible refine (HAw.out _ (HT.out.below hB)).mono ?_; rintro e wk ⟨rfl, hb⟩; replace hB := hB.trans (hb.mono hB.size); clear hb; obtain ⟨⟨-, c0, c1, c2, c3⟩, k0, k1, k2⟩ := HK.out _ hB))
              go_ret
              exact ⟨rfl, HB0.out.trans (hB.mono HB0.out.size)⟩
            · obtain ⟨a0, a1⟩ := hi1 rfl
              obtain ⟨z0, z1⟩ := hi2 rfl
              obtain ⟨y0, y1⟩ := hi3 rfl
              have hE := hgo rfl rfl rfl
              have gst : ¬ x < st := hst
              clear hi1 hi2 hi3 hgo
              obtain ⟨r, hr, _, hv, hi, v0, v1, s0, s1, i0, i1⟩ := errG_zero hs1 herr
              have hz : SzR 120 r := size_SzR hr hfew (by decide)
              have hzB : SzR (120 + (5 + 120 + 1 + 8) + 1) (lvR r v st ti x) := lv_sz hz v0 v1 i0 i1
              have hsB : (sR (lvR r v st ti x)).size ≤ 1000 := Nat.le_trans hzB.len (by decide)
              have eB : ofT s v st ti x = sR (lvR r v st ti x) := by rw [hr, ofT_lv]
              have hGo := fun w ht => ggo_any s v st ti x y z w hs1 x0 x1 ht
              have eG : goT s v st ti x y z = .agg #[.string (sR (lvR r v st ti x)), .int .i64 y, .int .i64 x, .int .i64 z] := by unfold goT; rw [hE, if_neg (by decide), eB]
              rw [hE, eG] at hGo
              have hAx := fun w ht => gat_any s v st ti x w hs1 x0 x1 ht
              rw [herr, show atT s v st ti x = sR (lvR r v st ti x) by unfold atT; rw [if_neg (fun hn => hn herr), eB]] at hAx
              have herrB : errG (sR (lvR r v st ti x)).data.toList y x z = 0 := by
                unfold errG
                rw [errLv_of hzB (by decide) (lv_in i0 hi v0 v1), if_neg (by decide), if_pos (by simp [inT]; omega)]
              obtain ⟨q1, q2, q3⟩ := two_chain (g := ⟨s, v, st, ti⟩) (h := ⟨sR (lvR r v st ti x), y, x, z⟩) herr herrB (by show st ≤ x; omega) (by show _ = ofT s v st ti x; rw [eB])
              have hs2 : ∀ g ∈ [(⟨s, v, st, ti⟩ : Gl), ⟨sR (lvR r v st ti x), y, x, z⟩], g.s.size ≤ 1000 := by
                intro g hg
                simp at hg
                rcases hg with rfl | rfl
                · exact hs1
                · exact hsB
              have hBx := fun w ht => gat_any (sR (lvR r v st ti x)) y x z x w hsB x0 x1 ht
              rw [herrB] at hBx
              have eX : 0 < z → atT (sR (lvR r v st ti x)) y x z x = sR (lvR r v st ti x) := fun h => by
                unfold atT ofT
                rw [if_neg (fun hn => hn herrB), if_neg (by omega), if_pos (Int.le_refl _)]
              have hCB := fun w ht => gcheck_any (sR (lvR r v st ti x)) y x z w hsB ht
              rw [herrB] at hCB
              have hCh := fun A c w hl ht => gchain_any A 2 c [(⟨s, v, st, ti⟩ : Gl), ⟨sR (lvR r v st ti x), y, x, z⟩] w hl (by decide) (fun _ => hs2) ht
              rw [q1] at hCh
              have hVa := fun A c w hl ht => gvalue_any A 2 c [(⟨s, v, st, ti⟩ : Gl), ⟨sR (lvR r v st ti x), y, x, z⟩] t w hl (by decide) (fun _ => hs2) t0 t1 ht
              rw [q2, q3] at hVa
              have hA1 := fun w ht => gat_any s v st ti t w hs1 t0 t1 ht
              rw [herr, show atT s v st ti t = (⟨s, v, st, ti⟩ : Gl).of t by unfold atT; rw [if_neg (fun hn => hn herr)]; rfl] at hA1
              have hA2 := fun w ht => gat_any (sR (lvR r v st ti x)) y x z t w hsB t0 t1 ht
              rw [herrB, show atT (sR (lvR r v st ti x)) y x z t = (⟨sR (lvR r v st ti x), y, x, z⟩ : Gl).of t by unfold atT; rw [if_neg (fun hn => hn herrB)]; rfl] at hA2
              generalize (⟨s, v, st, ti⟩ : Gl).of t = O1 at *
              generalize (⟨sR (lvR r v st ti x), y, x, z⟩ : Gl).of t = O2 at *
              generalize atT (sR (lvR r v st ti x)) y x z x = SX at *
              generalize sR (lvR r v st ti x) = SB at *
              have HGo := Lib.hid hGo
              have HAx := Lib.hid hAx
              have HBx := Lib.hid hBx
              have HCB := Lib.hid hCB
              have HCh := Lib.hid hCh
              have HA1 := Lib.hid hA1
              have HA2 := Lib.hid hA2
              have HVa := Lib.hid hVa
              have HX := Lib.hid (show ∃ b, decide (0 < z) = b ∧ (b = true → (!SX.toList == SB.toList) = false) from ⟨_, rfl, fun h => by rw [eX (of_decide_eq_true h), bytes_beq, decide_eq_true rfl]; rfl⟩)
              clear hGo hAx hBx hCB hCh hA1 hA2 hVa hr hv hi hz hzB hsB eB eG herrB q1 q2 q3 hs2 eX hE herr
              obtain ⟨b, hbz, hbX⟩ := HX.out
              by_cases htx : x ≤ t
              all_goals
                first
                  | rw [if_pos htx] at HVa
                  | rw [if_neg htx] at HVa
                cases b
                all_goals
                  try have hbX := hbX rfl
                  go_enter Tryz.func5, Tryz.ntmps5
                  go_wp2_with fail
                  rw [← HW.out]
                  go_wp2_with (first | (go_at_call 16; refine (HF.out _ _ _ (inOne _ _ _ HsW.out.symm ⟨s, v, st, ti⟩)).mono ?_; rintro e wk ⟨rfl, hb⟩; replace hB := (hB.alloc hB.size _).trans (hb.mono (hB.alloc hB.size _).size); clear hb; obtain ⟨⟨-, c0, c1, c2, c3⟩, k0, k1, k2⟩ := HK.out _ hB) | (go_at_call 25; with_reducible refine (HC.out _).mono ?_; rintro e wk ⟨rfl, hb⟩; replace hB := hB.trans (hb.mono hB.size); clear hb; obtain ⟨⟨-, c0, c1, c2, c3⟩, k0, k1, k2⟩ := HK.out _ hB) | (go_at_call 26; with_reducible refine (HT1.out _).mono ?_; rintro e wk ⟨rfl, hb⟩; replace hB := hB.trans (hb.mono hB.size); clear hb; obtain ⟨⟨-, c0, c1, c2, c3⟩, k0, k1, k2⟩ := HK.out _ hB) | (go_at_call 27; with_reducible refine (HWl.out _).mono ?_; rintro e wk ⟨rfl, hb⟩; replace hB := hB.trans (hb.mono hB.size); clear hb; obtain ⟨⟨-, c0, c1, c2, c3⟩, k0, k1, k2⟩ := HK.out _ hB) | (go_at_call 26; with_reducible refine (HT2.out _).mono ?_; rintro e wk ⟨rfl, hb⟩; replace hB := hB.trans (hb.mono hB.size); clear hb; obtain ⟨⟨-, c0, c1, c2, c3⟩, k0, k1, k2⟩ := HK.out _ hB) | (go_at_call 13; with_reducible refine (HAw.out _ (HT.out.below hB)).mono ?_; rintro e wk ⟨rfl, hb⟩; replace hB := hB.trans (hb.mono hB.size); clear hb; obtain ⟨⟨-, c0, c1, c2, c3⟩, k0, k1, k2⟩ := HK.out _ hB))
                  refine (HGo.out _ (HT.out.below hB)).mono ?_
                  rintro e wg ⟨rfl, hb⟩
                  replace hB := hB.trans (hb.mono hB.size)
                  obtain ⟨hk1, hk2⟩ := HK.out _ hB
                  obtain ⟨-, c0, c1, c2, c3⟩ := id hk1
                  obtain ⟨k0, k1, k2⟩ := id hk2
                  have hl3 : w.heap.size < wg.heap.size := hk1.lt
                  have hl2 : w.heap.size + 1 < wg.heap.size := by have := hB.size; have := HsW.out; omega
                  clear hb
                  go_wp2_with fail
                  generalize hWh : World.alloc wg _ = Wh
                  have hh : GBx SB y x z wg.heap.size Wh := by rw [← hWh]; exact GBx.fresh wg _ _ _ _
                  have hBh : Below wg.heap.size wg Wh := by rw [← hWh]; exact (Below.refl _ wg).alloc (Nat.le_refl _) _
                  replace hB := hB.trans (hBh.mono hB.size)
                  have HB1 := Lib.hid (HB0.out.trans (hB.mono HB0.out.size))
                  replace HT := Lib.hid (HT.out.below hB)
                  replace HK := Lib.hid (show ∀ w', Below Wh.heap.size Wh w' → GBx s v st ti w.heap.size w' ∧ (w'.cell? ⟨w.heap.size + 1, 0, none⟩ = some (.int .i64 x) ∧ w'.cell? ⟨w.heap.size + 1, 1, none⟩ = some (.int .i64 y) ∧ w'.cell? ⟨w.heap.size + 1, 2, none⟩ = some (.int .i64 z)) ∧ w.heap.size + 1 < w'.heap.size ∧ GBx SB y x z wg.heap.size w' from fun w' h => by
                    obtain ⟨a, b⟩ := HK.out _ (hB.trans (h.mono hB.size))
                    exact ⟨a, b, Nat.lt_of_lt_of_le (Nat.lt_trans hl2 hh.lt) h.size, hh.below hh.lt h⟩)
                  clear hWh hBh hh hk1 hk2 hB
                  have hB := Below.refl Wh.heap.size Wh
                  obtain ⟨⟨hl4, c0, c1, c2, c3⟩, ⟨k0, k1, k2⟩, hl6, hl5, h0, h1, h2, h3⟩ := HK.out _ hB
                  go_wp2_with (first | (go_at_call 28; with_reducible refine (HAx.out _ (HT.out.below hB)).mono ?_; rintro e wk ⟨rfl, hb⟩; replace hB := hB.trans (hb.mono hB.size); clear hb; obtain ⟨⟨hl4, c0, c1, c2, c3⟩, ⟨k0, k1, k2⟩, hl6, hl5, h0, h1, h2, h3⟩ := HK.out _ hB) | (go_at_call 28; with_reducible refine (HBx.out _ (HT.out.below hB)).mono ?_; rintro e wk ⟨rfl, hb⟩; replace hB := hB.trans (hb.mono hB.size); clear hb; obtain ⟨⟨hl4, c0, c1, c2, c3⟩, ⟨k0, k1, k2⟩, hl6, hl5, h0, h1, h2, h3⟩ := HK.out _ hB) | (go_at_call 29; with_reducible refine (HCB.out _ (HT.out.below hB)).mono ?_; rintro e wk ⟨rfl, hb⟩; replace hB := hB.trans (hb.mono hB.size); clear hb; obtain ⟨⟨hl4, c0, c1, c2, c3⟩, ⟨k0, k1, k2⟩, hl6, hl5, h0, h1, h2, h3⟩ := HK.out _ hB) | (go_at_call 21; refine (HCh.out _ _ _ (inTwo _ _ _ rfl ⟨s, v, st, ti⟩ ⟨SB, y, x, z⟩) (HT.out.below (hB.alloc hB.size _))).mono ?_; rintro e wk ⟨rfl, hb⟩; replace hB := (hB.alloc hB.size _).trans (hb.mono (hB.alloc hB.size _).size); clear hb; obtain ⟨⟨hl4, c0, c1, c2, c3⟩, ⟨k0, k1, k2⟩, hl6, hl5, h0, h1, h2, h3⟩ := HK.out _ hB) | (go_at_call 17; refine (HVa.out _ _ _ (inTwo _ _ _ rfl ⟨s, v, st, ti⟩ ⟨SB, y, x, z⟩) (HT.out.below (hB.alloc hB.size _))).mono ?_; rintro e wk ⟨rfl, hb⟩; replace hB := (hB.alloc hB.size _).trans (hb.mono (hB.alloc hB.size _).size); clear hb; obtain ⟨⟨hl4, c0, c1, c2, c3⟩, ⟨k0, k1, k2⟩, hl6, hl5, h0, h1, h2, h3⟩ := HK.out _ hB))
                  first
                    | with_reducible refine (HA2.out _ (HT.out.below (hB.alloc hB.size _))).mono ?_
                    | with_reducible refine (HA1.out _ (HT.out.below (hB.alloc hB.size _))).mono ?_
                  rintro e w8 ⟨rfl, hb⟩
                  replace hB := (hB.alloc hB.size _).trans (hb.mono (hB.alloc hB.size _).size)
                  clear hb
                  go_wp2_with fail
                  with_reducible refine (HAw.out _ (HT.out.below hB)).mono ?_
                  rintro e w9 ⟨rfl, hb⟩
                  replace hB := hB.trans (hb.mono hB.size)
                  clear hb
                  go_wp2_with fail
                  go_ret
                  exact ⟨rfl, HB1.out.trans (hB.mono HB1.out.size)⟩
    · generalize errG s.data.toList v st ti = k at *
      have g1 : (k == 0) = false := by simpa using herr
      have g2 : (k != 0) = true := by simpa using herr
      have HT1 := Lib.hid (fun w => r3timeB x w)
      have HT2 := Lib.hid (fun w => r3timeB z w)
      have HWl := Lib.hid (fun w => r3wholeB y w)
      go_enter Tryz.func5, Tryz.ntmps5
      go_wp2_with fail
      rw [← HW.out]
      go_wp2_with (first | (go_at_call 16; refine (HF.out _ _ _ (inOne _ _ _ HsW.out.symm ⟨s, v, st, ti⟩)).mono ?_; rintro e wk ⟨rfl, hb⟩; replace hB := (hB.alloc hB.size _).trans (hb.mono (hB.alloc hB.size _).size); clear hb; obtain ⟨⟨-, c0, c1, c2, c3⟩, k0, k1, k2⟩ := HK.out _ hB) | (go_at_call 25; with_reducible refine (HC.out _).mono ?_; rintro e wk ⟨rfl, hb⟩; replace hB := hB.trans (hb.mono hB.size); clear hb; obtain ⟨⟨-, c0, c1, c2, c3⟩, k0, k1, k2⟩ := HK.out _ hB) | (go_at_call 26; with_reducible refine (HT1.out _).mono ?_; rintro e wk ⟨rfl, hb⟩; replace hB := hB.trans (hb.mono hB.size); clear hb; obtain ⟨⟨-, c0, c1, c2, c3⟩, k0, k1, k2⟩ := HK.out _ hB) | (go_at_call 27; with_reducible refine (HWl.out _).mono ?_; rintro e wk ⟨rfl, hb⟩; replace hB := hB.trans (hb.mono hB.size); clear hb; obtain ⟨⟨-, c0, c1, c2, c3⟩, k0, k1, k2⟩ := HK.out _ hB) | (go_at_call 26; with_reducible refine (HT2.out _).mono ?_; rintro e wk ⟨rfl, hb⟩; replace hB := hB.trans (hb.mono hB.size); clear hb; obtain ⟨⟨-, c0, c1, c2, c3⟩, k0, k1, k2⟩ := HK.out _ hB) | (go_at_call 13; with_reducible refine (HAw.out _ (HT.out.below hB)).mono ?_; rintro e wk ⟨rfl, hb⟩; replace hB := hB.trans (hb.mono hB.size); clear hb; obtain ⟨⟨-, c0, c1, c2, c3⟩, k0, k1, k2⟩ := HK.out _ hB))
      go_ret
      exact ⟨rfl, HB0.out.trans (hB.mono HB0.out.size)⟩
  · rw [show decide ((⟨s, v, st, ti⟩ : Gl).s.size ≤ 120) = false from decide_eq_false hfew] at HF
    have HC := Lib.hid (fun w => r3timeB x w)
    have HT1 := Lib.hid (fun w => r3timeB x w)
    have HT2 := Lib.hid (fun w => r3timeB z w)
    have HWl := Lib.hid (fun w => r3wholeB y w)
    go_enter Tryz.func5, Tryz.ntmps5
    go_wp2_with fail
    rw [← HW.out]
    go_wp2_with (first | (go_at_call 16; refine (HF.out _ _ _ (inOne _ _ _ HsW.out.symm ⟨s, v, st, ti⟩)).mono ?_; rintro e wk ⟨rfl, hb⟩; replace hB := (hB.alloc hB.size _).trans (hb.mono (hB.alloc hB.size _).size); clear hb; obtain ⟨⟨-, c0, c1, c2, c3⟩, k0, k1, k2⟩ := HK.out _ hB) | (go_at_call 25; with_reducible refine (HC.out _).mono ?_; rintro e wk ⟨rfl, hb⟩; replace hB := hB.trans (hb.mono hB.size); clear hb; obtain ⟨⟨-, c0, c1, c2, c3⟩, k0, k1, k2⟩ := HK.out _ hB) | (go_at_call 26; with_reducible refine (HT1.out _).mono ?_; rintro e wk ⟨rfl, hb⟩; replace hB := hB.trans (hb.mono hB.size); clear hb; obtain ⟨⟨-, c0, c1, c2, c3⟩, k0, k1, k2⟩ := HK.out _ hB) | (go_at_call 27; with_reducible refine (HWl.out _).mono ?_; rintro e wk ⟨rfl, hb⟩; replace hB := hB.trans (hb.mono hB.size); clear hb; obtain ⟨⟨-, c0, c1, c2, c3⟩, k0, k1, k2⟩ := HK.out _ hB) | (go_at_call 26; with_reducible refine (HT2.out _).mono ?_; rintro e wk ⟨rfl, hb⟩; replace hB := hB.trans (hb.mono hB.size); clear hb; obtain ⟨⟨-, c0, c1, c2, c3⟩, k0, k1, k2⟩ := HK.out _ hB) | (go_at_call 13; with_reducible refine (HAw.out _ (HT.out.below hB)).mono ?_; rintro e wk ⟨rfl, hb⟩; replace hB := hB.trans (hb.mono hB.size); clear hb; obtain ⟨⟨-, c0, c1, c2, c3⟩, k0, k1, k2⟩ := HK.out _ hB))
    go_ret
    exact ⟨rfl, HB0.out.trans (hB.mono HB0.out.size)⟩
theorem glide_overtakes (w : World) (g : Gl) (_ : g.good) (x : Tn) (hx : x.good) (t : Int) (ht : (Lit.int .i64 t).wf = true) (hL : Laid w) :
    Calls Tryz.prog 5 #[.agg (shG.cs g).toArray, .agg (shT.cs x).toArray, .int .i64 t] w fun e w' => e = .returned (.bool true) ∧ Below w.heap.size w w' :=
  gover_walk w g.s g.v g.st g.ti x.at_ x.lv x.ti t hx.1.1 hx.1.2 (int_bd ht).1 (int_bd ht).2 hL.1
end Go.Proofs.YtjnhdimllllgaaaGreatDoor
