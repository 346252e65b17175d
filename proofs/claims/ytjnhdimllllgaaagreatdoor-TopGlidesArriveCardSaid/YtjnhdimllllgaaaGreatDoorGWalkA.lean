/- Lemmas and contracts of functions, joined for the claim: Law3a, Law3b, Law3c, Law3d. -/
import Derived.Test.YtjnhdimllllgaaaGreatDoorGGlideC
import Derived.Test.YtjnhdimllllgaaaGreatDoorGGlideA
import Derived.Test.YtjnhdimllllgaaaGreatDoorGOpen
import Derived.Test.YtjnhdimllllgaaaGreatDoorGGlideB
namespace Go.Proofs.YtjnhdimllllgaaaGreatDoor
open Go.RowKit

set_option maxRecDepth 100000 in
set_option maxHeartbeats 8000000 in
theorem glevels_walk (w : World) (s : ByteArray) (v st ti t : Int) (hs : s.size ≤ 9223372036854775807) (t0 : -9223372036854775808 ≤ t) (t1 : t ≤ 9223372036854775807) (ht : Tab w) :
    Calls Tryz.prog 7 #[.agg #[.string s, .int .i64 v, .int .i64 st, .int .i64 ti], .int .i64 t] w fun e w' => e = .returned (.bool true) ∧ Below w.heap.size w w' := by
  have HAw := Lib.hid (fun w ht => gawake_any w ht)
  obtain ⟨W, hW⟩ : ∃ W, W = w.alloc (.cells #[.string s, .int .i64 v, .int .i64 st, .int .i64 ti] 24) := ⟨_, rfl⟩
  have hG := GBx.fresh w s v st ti
  have hB0 : Below w.heap.size w W := by rw [hW]; exact (Below.refl _ w).alloc (Nat.le_refl _) _
  rw [← hW] at hG
  have HP := Lib.hid hG.lt
  have HG := Lib.hid hG
  have HW := Lib.hid hW
  have HB0 := Lib.hid hB0
  have hB := Below.refl W.heap.size W
  obtain ⟨-, c0, c1, c2, c3⟩ := hG
  clear hW hB0
  have HT := Lib.hid (ht.below HB0.out)
  clear ht
  by_cases hbig : 300 < s.size
  · have g1 : (300 : Int) < (s.size : Int) := by omega
    go_enter Tryz.func7, Tryz.ntmps7
    go_wp2_with fail
    rw [← HW.out]
    go_wp2_with (first | (go_at_call 13; with_reducible refine (HAw.out _ (HT.out.below hB)).mono ?_; rintro e wk ⟨rfl, hb⟩; replace hB := hB.trans (hb.mono hB.size); clear hb; obtain ⟨-, c0, c1, c2, c3⟩ := HG.out.below HP.out hB))
    go_ret
    exact ⟨rfl, HB0.out.trans (hB.mono HB0.out.size)⟩
  · have g1 : ¬ (300 : Int) < (s.size : Int) := by omega
    have hs1 : s.size ≤ 1000 := by omega
    have HA := Lib.hid (fun w ht => gat_any s v st ti t w hs1 t0 t1 ht)
    have HRA := Lib.hid (fun w => r3at_any s v st ti t w hs1 t0 t1)
    have HD := Lib.hid (fun w ht => gdone_any s v st ti t w hs1 ht)
    have HRD := Lib.hid (fun w => r3done_any s v st ti t w hs1)
    have HC := Lib.hid (fun w ht => gcheck_any s v st ti w hs1 ht)
    have HRC := Lib.hid (fun w => r3check_any s v st ti w hs1)
    have HF := Lib.hid (fun w ht => gfull_any w ht)
    have HRF := Lib.hid (fun w => r3full_any w)
    have HZ := Lib.hid (fun w ht => gzero_any w ht)
    have HRZ := Lib.hid (fun w => r3zero_any w)
    unfold fullV at HF HRF
    unfold zeroV at HZ HRZ
    generalize atT s v st ti t = X at *
    generalize doneT s v st ti t = D at *
    generalize errG s.data.toList v st ti = k at *
    generalize sR ((65535 : Int) : Rat) = F1 at *
    generalize sR ((0 : Int) : Rat) = F0 at *
    go_enter Tryz.func7, Tryz.ntmps7
    go_wp2_with fail
    rw [← HW.out]
    go_wp2_with (first | (go_at_call 28; with_reducible refine (HA.out _ (HT.out.below hB)).mono ?_; rintro e wk ⟨rfl, hb⟩; replace hB := hB.trans (hb.mono hB.size); clear hb; obtain ⟨-, c0, c1, c2, c3⟩ := HG.out.below HP.out hB) | (go_at_call 34; with_reducible refine (HRA.out _).mono ?_; rintro e wk ⟨rfl, hb⟩; replace hB := hB.trans (hb.mono hB.size); clear hb; obtain ⟨-, c0, c1, c2, c3⟩ := HG.out.below HP.out hB) | (go_at_call 30; with_reducible refine (HD.out _ (HT.out.below hB)).mono ?_; rintro e wk ⟨rfl, hb⟩; replace hB := hB.trans (hb.mono hB.size); clear hb; obtain ⟨-, c0, c1, c2, c3⟩ := HG.out.below HP.out hB) | (go_at_call 35; with_reducible refine (HRD.out _).mono ?_; rintro e wk ⟨rfl, hb⟩; replace hB := hB.trans (hb.mono hB.size); clear hb; obtain ⟨-, c0, c1, c2, c3⟩ := HG.out.below HP.out hB))
    replace hB := below_drewN hB 1
    obtain ⟨-, c0, c1, c2, c3⟩ := HG.out.below HP.out hB
    go_region_held3 (fun w' => w'.cell? ⟨w.heap.size, 0, none⟩ = some (.string s) ∧ w'.cell? ⟨w.heap.size, 1, none⟩ = some (.int .i64 v) ∧ w'.cell? ⟨w.heap.size, 2, none⟩ = some (.int .i64 st) ∧ w'.cell? ⟨w.heap.size, 3, none⟩ = some (.int .i64 ti)) (exact ⟨c0, c1, c2, c3⟩) (first | (go_at_call 13; refine (HAw.out _ (HT.out.below hB)).mono ?_; rintro e wk ⟨rfl, hb⟩; replace hB := hB.trans (hb.mono hB.size); clear hb; obtain ⟨-, c0, c1, c2, c3⟩ := HG.out.below HP.out hB) | (go_at_call 29; refine (HC.out _ (HT.out.below hB)).mono ?_; rintro e wk ⟨rfl, hb⟩; replace hB := hB.trans (hb.mono hB.size); clear hb; obtain ⟨-, c0, c1, c2, c3⟩ := HG.out.below HP.out hB) | (go_at_call 25; refine (HRC.out _).mono ?_; rintro e wk ⟨rfl, hb⟩; replace hB := hB.trans (hb.mono hB.size); clear hb; obtain ⟨-, c0, c1, c2, c3⟩ := HG.out.below HP.out hB) | (go_at_call 36; refine (HF.out _ (HT.out.below hB)).mono ?_; rintro e wk ⟨rfl, hb⟩; replace hB := hB.trans (hb.mono hB.size); clear hb; obtain ⟨-, c0, c1, c2, c3⟩ := HG.out.below HP.out hB) | (go_at_call 37; refine (HRF.out _).mono ?_; rintro e wk ⟨rfl, hb⟩; replace hB := hB.trans (hb.mono hB.size); clear hb; obtain ⟨-, c0, c1, c2, c3⟩ := HG.out.below HP.out hB) | (go_at_call 38; refine (HZ.out _ (HT.out.below hB)).mono ?_; rintro e wk ⟨rfl, hb⟩; replace hB := hB.trans (hb.mono hB.size); clear hb; obtain ⟨-, c0, c1, c2, c3⟩ := HG.out.below HP.out hB) | (go_at_call 39; refine (HRZ.out _).mono ?_; rintro e wk ⟨rfl, hb⟩; replace hB := hB.trans (hb.mono hB.size); clear hb; obtain ⟨-, c0, c1, c2, c3⟩ := HG.out.below HP.out hB))
    all_goals
      go_wp2
      go_ret
      exact ⟨rfl, HB0.out.trans (hB.mono HB0.out.size)⟩
theorem glide_levels (w : World) (g : Gl) (hg : g.good) (t : Int) (ht : (Lit.int .i64 t).wf = true) (hL : Laid w) :
    Calls Tryz.prog 7 #[.agg (shG.cs g).toArray, .int .i64 t] w fun e w' => e = .returned (.bool true) ∧ Below w.heap.size w w' :=
  glevels_walk w g.s g.v g.st g.ti t hg.1 (int_bd ht).1 (int_bd ht).2 hL.1
end Go.Proofs.YtjnhdimllllgaaaGreatDoor

namespace Go.Proofs.YtjnhdimllllgaaaGreatDoor
open Go.RowKit

theorem three_keep {w w' : World} {b o : Nat} {v0 v1 v2 : Value} (hb : b < w.heap.size) (h : w.cell? ⟨b, o, none⟩ = some v0 ∧ w.cell? ⟨b, o + 1, none⟩ = some v1 ∧ w.cell? ⟨b, o + 2, none⟩ = some v2) (hB : Below w.heap.size w w') :
    w'.cell? ⟨b, o, none⟩ = some v0 ∧ w'.cell? ⟨b, o + 1, none⟩ = some v1 ∧ w'.cell? ⟨b, o + 2, none⟩ = some v2 := by
  obtain ⟨hcc, _⟩ := bcell hB
  exact ⟨(hcc _ _ hb).trans h.1, (hcc _ _ hb).trans h.2.1, (hcc _ _ hb).trans h.2.2⟩
theorem three_keep0 {w w' : World} {b : Nat} {v0 v1 v2 : Value} (hb : b < w.heap.size) (h : w.cell? ⟨b, 0, none⟩ = some v0 ∧ w.cell? ⟨b, 1, none⟩ = some v1 ∧ w.cell? ⟨b, 2, none⟩ = some v2) (hB : Below w.heap.size w w') :
    w'.cell? ⟨b, 0, none⟩ = some v0 ∧ w'.cell? ⟨b, 1, none⟩ = some v1 ∧ w'.cell? ⟨b, 2, none⟩ = some v2 := three_keep (o := 0) hb h hB
theorem four_keep0 {w w' : World} {b : Nat} {v0 v1 v2 v3 : Value} (hb : b < w.heap.size) (h : w.cell? ⟨b, 0, none⟩ = some v0 ∧ w.cell? ⟨b, 1, none⟩ = some v1 ∧ w.cell? ⟨b, 2, none⟩ = some v2 ∧ w.cell? ⟨b, 3, none⟩ = some v3) (hB : Below w.heap.size w w') :
    w'.cell? ⟨b, 0, none⟩ = some v0 ∧ w'.cell? ⟨b, 1, none⟩ = some v1 ∧ w'.cell? ⟨b, 2, none⟩ = some v2 ∧ w'.cell? ⟨b, 3, none⟩ = some v3 := four_keep (o := 0) hb h hB
theorem goT_form (s : ByteArray) (v st ti t u d : Int) : ∃ s' a b c, goT s v st ti t u d = .agg #[.string s', .int .i64 a, .int .i64 b, .int .i64 c] := by
  unfold goT
  split
  · exact ⟨_, _, _, _, rfl⟩
  · exact ⟨_, _, _, _, rfl⟩
set_option maxRecDepth 100000 in
set_option maxHeartbeats 8000000 in
theorem ggoes_walk (w : World) (s : ByteArray) (v st ti : Int) (x y z : Int) (t0 : -9223372036854775808 ≤ x) (t1 : x ≤ 9223372036854775807) (ht : Tab w) :
    Calls Tryz.prog 3 #[.agg #[.string s, .int .i64 v, .int .i64 st, .int .i64 ti], .agg #[.int .i64 x, .int .i64 y, .int .i64 z]] w fun e w' => e = .returned (.bool true) ∧ Below w.heap.size w w' := by
  have HAw := Lib.hid (fun w ht => gawake_any w ht)
  obtain ⟨W, hW⟩ : ∃ W, W = (w.alloc (.cells #[.string s, .int .i64 v, .int .i64 st, .int .i64 ti] 24)).alloc (.cells #[.int .i64 x, .int .i64 y, .int .i64 z] 26) := ⟨_, rfl⟩
  have hb1 : Below w.heap.size w (w.alloc (.cells #[.string s, .int .i64 v, .int .i64 st, .int .i64 ti] 24)) := (Below.refl _ w).alloc (Nat.le_refl _) _
  have hB : Below w.heap.size w W := by rw [hW]; exact hb1.alloc hb1.size _
  have hG0 := GBx.fresh w s v st ti
  have hG : GBx s v st ti w.heap.size W := by rw [hW]; exact hG0.below hG0.lt ((Below.refl _ _).alloc (Nat.le_refl _) _)
  have k0 : W.cell? ⟨w.heap.size + 1, 0, none⟩ = some (.int .i64 x) := by rw [hW, World.cell?_alloc_at _ _ _ _ (by simp)]; rfl
  have k1 : W.cell? ⟨w.heap.size + 1, 1, none⟩ = some (.int .i64 y) := by rw [hW, World.cell?_alloc_at _ _ _ _ (by simp)]; rfl
  have k2 : W.cell? ⟨w.heap.size + 1, 2, none⟩ = some (.int .i64 z) := by rw [hW, World.cell?_alloc_at _ _ _ _ (by simp)]; rfl
  have hlt : w.heap.size + 1 < W.heap.size := by rw [hW]; simp
  have HW := Lib.hid hW
  have HT := Lib.hid ht
  obtain ⟨hlg, c0, c1, c2, c3⟩ := hG
  clear hW hG0 ht
  by_cases hbig : 300 < s.size
  · have g1 : (300 : Int) < (s.size : Int) := by omega
    go_enter Tryz.func3, Tryz.ntmps3
    go_wp2_with fail
    rw [← HW.out]
    go_wp2_with (first | (go_at_call 13; with_reducible refine (HAw.out _ (HT.out.below hB)).mono ?_; rintro e wk ⟨rfl, hb⟩; replace hB := hB.trans (hb.mono hB.size); clear hb))
    go_ret
    exact ⟨rfl, hB⟩
  · have g1 : ¬ (300 : Int) < (s.size : Int) := by omega
    have hs1 : s.size ≤ 1000 := by omega
    have HGo := Lib.hid (fun w ht => ggo_any s v st ti x y z w hs1 t0 t1 ht)
    have HRG := Lib.hid (fun w => r3go_any s v st ti x y z w hs1 t0 t1)
    obtain ⟨s', a, b, c, e⟩ := goT_form s v st ti x y z
    rw [e] at HGo HRG
    generalize errGo s.data.toList v st ti x y z = k at *
    clear e
    go_enter Tryz.func3, Tryz.ntmps3
    go_wp2_with fail
    rw [← HW.out]
    go_wp2_with fail
    refine (HGo.out _ (HT.out.below hB)).mono ?_
    rintro e wg ⟨rfl, hb⟩
    obtain ⟨c0, c1, c2, c3⟩ := four_keep0 hlg ⟨c0, c1, c2, c3⟩ hb
    obtain ⟨k0, k1, k2⟩ := three_keep0 hlt ⟨k0, k1, k2⟩ hb
    replace hB := hB.trans (hb.mono hB.size)
    have hl2 : w.heap.size + 1 < wg.heap.size := Nat.lt_of_lt_of_le hlt hb.size
    have hl3 : w.heap.size < wg.heap.size := by omega
    clear hb hlt hlg
    go_wp2_with fail
    generalize hWh : World.alloc wg _ = Wh
    have hh : GBx s' a b c wg.heap.size Wh := by rw [← hWh]; exact GBx.fresh wg _ _ _ _
    have hBh : Below wg.heap.size wg Wh := by rw [← hWh]; exact (Below.refl _ wg).alloc (Nat.le_refl _) _
    clear hWh
    replace hB := hB.trans (hBh.mono hB.size)
    refine (HRG.out _).mono ?_
    rintro e wv ⟨rfl, hb⟩
    have hh := hh.below hh.lt hb
    replace hB := hB.trans (hb.mono hB.size)
    clear hb hBh
    go_wp2_with fail
    generalize hWi : World.alloc wv _ = Wi
    have hi : GBx s' a b c wv.heap.size Wi := by rw [← hWi]; exact GBx.fresh wv _ _ _ _
    have hBi : Below wv.heap.size wv Wi := by rw [← hWi]; exact (Below.refl _ wv).alloc (Nat.le_refl _) _
    have hh := hh.below hh.lt hBi
    replace hB := hB.trans (hBi.mono hB.size)
    clear hWi hBi
    refine (HAw.out _ (HT.out.below hB)).mono ?_
    rintro e wz ⟨rfl, hb⟩
    obtain ⟨-, d0, d1, d2, d3⟩ := hh.below hh.lt hb
    obtain ⟨-, e0, e1, e2, e3⟩ := hi.below hi.lt hb
    replace hB := hB.trans (hb.mono hB.size)
    clear hb hh hi
    go_wp2_with fail
    go_ret
    exact ⟨rfl, hB⟩
theorem glide_goes (w : World) (g : Gl) (_ : g.good) (x : Tn) (hx : x.good) (hL : Laid w) :
    Calls Tryz.prog 3 #[.agg (shG.cs g).toArray, .agg (shT.cs x).toArray] w fun e w' => e = .returned (.bool true) ∧ Below w.heap.size w w' :=
  ggoes_walk w g.s g.v g.st g.ti x.at_ x.lv x.ti hx.1.1 hx.1.2 hL.1
theorem turn_cells {H : Type} {enc : TypeId × Value → H} {w : World} {base : Nat} {spare : Nat → Bool} {held : Bool} {fuel : Nat} {cs : List Value} {x : DataW H × List MemPlace} (h : DataW.trod enc Tryz.prog w base spare held fuel 26 cs = some x) : ∃ g : Tn, cs = shT.cs g ∧ g.good :=
  turn_of (by kernel_rfl) (by kernel_rfl) (by kernel_rfl) h
end Go.Proofs.YtjnhdimllllgaaaGreatDoor

namespace Go.Proofs.YtjnhdimllllgaaaGreatDoor
open Go.RowKit

theorem fewG_sizes {l : List Gl} (h : fewG l = true) : l.length ≤ 256 → ∀ g ∈ l, g.s.size ≤ 120 := by
  intro h2 g hg
  unfold fewG at h
  rw [Bool.and_eq_true, Bool.not_eq_true', Bool.and_eq_false_iff, decide_eq_false_iff_not, decide_eq_false_iff_not] at h
  have h3 : l.length ≤ 12 := by omega
  have := List.all_eq_true.1 h.2 g (by rw [List.take_of_length_le h3]; exact hg)
  simpa using this
theorem knT_len (l : List Gl) : (knT l).length ≤ 100000 := by
  unfold knT
  split
  · simp
  · rename_i h
    have h1 : l.length ≤ 256 := (chT_le (Classical.not_not.1 h)).1
    have := knK_len2 l l.length
    omega
set_option maxRecDepth 100000 in
set_option maxHeartbeats 8000000 in
theorem gchains_walk (w : World) (A : Option Addr) (n c : Nat) (l : List Gl) (t : Int) (hl : shG.In w A n l) (hn : n ≤ 9223372036854775807) (t0 : -9223372036854775808 ≤ t) (t1 : t ≤ 9223372036854775807) (ht : Tab w) :
    Calls Tryz.prog 4 #[.slice A n c, .int .i64 t] w fun e w' => e = .returned (.bool true) ∧ Below w.heap.size w w' := by
  obtain ⟨rfl, _⟩ := id hl
  have HAw := Lib.hid (fun w ht => gawake_any w ht)
  have HF := Lib.hid (fun w hl => r3few_any A l.length c l w hl hn)
  have hB := Below.refl w.heap.size w
  have HL := Lib.hid hl
  have HT := Lib.hid ht
  clear hl ht
  cases hf : fewG l with
  | false =>
    rw [hf] at HF
    clear hf
    go_enter Tryz.func4, Tryz.ntmps4
    go_wp2_with (first | (go_at_call 16; with_reducible refine (HF.out _ (HL.out.below hB)).mono ?_; rintro e wk ⟨rfl, hb⟩; replace hB := hB.trans (hb.mono hB.size); clear hb) | (go_at_call 13; with_reducible refine (HAw.out _ (HT.out.below hB)).mono ?_; rintro e wk ⟨rfl, hb⟩; replace hB := hB.trans (hb.mono hB.size); clear hb))
    go_ret
    exact ⟨rfl, hB⟩
  | true =>
    rw [hf] at HF
    have hs : l.length ≤ 256 → ∀ g ∈ l, g.s.size ≤ 1000 := fun h g hg => Nat.le_trans (fewG_sizes hf h g hg) (by decide)
    have HV := Lib.hid (fun w hl ht => gvalue_any A l.length c l t w hl hn hs t0 t1 ht)
    have HRV := Lib.hid (fun w hl => r3value_any A l.length c l t w hl hn hs t0 t1)
    have HK := Lib.hid (fun w hl ht => gknots_any A l.length c l w hl hn hs ht)
    have HRK := Lib.hid (fun w hl => r3knots_any A l.length c l w hl hn hs)
    have HC := Lib.hid (fun w hl ht => gchain_any A l.length c l w hl hn hs ht)
    have HRC := Lib.hid (fun w hl => r3chain_any A l.length c l w hl hn hs)
    have hlen := knT_len l
    generalize valL l t = X at *
    generalize errV l = E at *
    generalize chT l = k at *
    generalize knT l = K at *
    clear hf hs
    go_enter Tryz.func4, Tryz.ntmps4
    go_wp2_with (first | (go_at_call 16; with_reducible refine (HF.out _ (HL.out.below hB)).mono ?_; rintro e wk ⟨rfl, hb⟩; replace hB := hB.trans (hb.mono hB.size); clear hb) | (go_at_call 17; with_reducible refine (HV.out _ (HL.out.below hB) (HT.out.below hB)).mono ?_; rintro e wk ⟨rfl, hb⟩; replace hB := hB.trans (hb.mono hB.size); clear hb) | (go_at_call 18; with_reducible refine (HRV.out _ (HL.out.below hB)).mono ?_; rintro e wk ⟨rfl, hb⟩; replace hB := hB.trans (hb.mono hB.size); clear hb))
    refine (HK.out _ (HL.out.below hB) (HT.out.below hB)).mono ?_
    rintro e w1 ⟨r1, rfl, A1, c1, rfl, ho1, hb⟩
    have hi1 : shK.In w1 A1 K.length K := Sh.In.of_own ho1 rfl
    replace hB := hB.trans (hb.mono hB.size)
    clear hb ho1
    go_wp2_with fail
    refine (HRK.out _ (HL.out.below hB)).mono ?_
    rintro e w2 ⟨r2, rfl, A2, c2, rfl, ho2, hb⟩
    have hi2 : shK.In w2 A2 K.length K := Sh.In.of_own ho2 rfl
    have hi1 := hi1.below hb
    replace hB := hB.trans (hb.mono hB.size)
    clear hb ho2
    go_wp2_with fail
    refine (HAw.out _ (HT.out.below hB)).mono ?_
    rintro e w3 ⟨rfl, hb⟩
    have hi1 := hi1.below hb
    have hi2 := hi2.below hb
    replace hB := hB.trans (hb.mono hB.size)
    clear hb
    go_wp2_with fail
    refine (HC.out _ (HL.out.below hB) (HT.out.below hB)).mono ?_
    rintro e w4 ⟨rfl, hb⟩
    have hi1 := hi1.below hb
    have hi2 := hi2.below hb
    replace hB := hB.trans (hb.mono hB.size)
    clear hb
    go_wp2_with fail
    refine (HRC.out _ (HL.out.below hB)).mono ?_
    rintro e w5 ⟨rfl, hb⟩
    have hi1 := hi1.below hb
    have hi2 := hi2.below hb
    replace hB := hB.trans (hb.mono hB.size)
    clear hb
    go_wp2_with fail
    refine (lknots_any A1 K.length c1 K _ hi1 hlen).mono ?_
    rintro e w6 ⟨r3, rfl, A3, c3, rfl, ho3, hb⟩
    have hi3 : shK.In w6 A3 K.length K := Sh.In.of_own ho3 rfl
    have hi2 := hi2.below hb
    replace hB := hB.trans (hb.mono hB.size)
    clear hb ho3 hi1
    go_wp2_with fail
    have hsm := r3same_any A3 A2 K.length K.length c3 c2 K K _ hi3 hi2 (by omega) (by omega)
    rw [decide_eq_true rfl] at hsm
    refine hsm.mono ?_
    rintro e w7 ⟨rfl, hb⟩
    replace hB := hB.trans (hb.mono hB.size)
    clear hb hi3 hi2 hsm
    go_wp2_with fail
    go_ret
    exact ⟨rfl, hB⟩
theorem glide_chains (w : World) (A : Option Addr) (n c : Nat) (l : List Gl) (hl : shG.In w A n l) (_ : ∀ g ∈ l, g.good) (hn : n ≤ maxLen) (t : Int) (ht : (Lit.int .i64 t).wf = true) (hL : Laid w) :
    Calls Tryz.prog 4 #[.slice A n c, .int .i64 t] w fun e w' => e = .returned (.bool true) ∧ Below w.heap.size w w' :=
  gchains_walk w A n c l t hl (by unfold maxLen at hn; omega) (int_bd ht).1 (int_bd ht).2 hL.1
end Go.Proofs.YtjnhdimllllgaaaGreatDoor

namespace Go.Proofs.YtjnhdimllllgaaaGreatDoor
open Go.RowKit

set_option maxRecDepth 100000 in
set_option maxHeartbeats 8000000 in
theorem greads_walk (w : World) (A : Option Addr) (n c : Nat) (l : List Kn) (t : Int) (hl : shK.In w A n l) (hn : n ≤ 9223372036854775807) (hby : n * 24 ≤ 140737488355328) (t0 : -9223372036854775808 ≤ t) (t1 : t ≤ 9223372036854775807) (ht : Tab w) :
    Calls Tryz.prog 8 #[.slice A n c, .int .i64 t] w fun e w' => e = .returned (.bool true) ∧ Below w.heap.size w w' := by
  obtain ⟨rfl, _⟩ := id hl
  have HAw := Lib.hid (fun w ht => gawake_any w ht)
  have hB := Below.refl w.heap.size w
  have HT := Lib.hid ht
  clear ht
  by_cases h1 : 20 < l.length ∧ l.length ≤ 512
  · obtain ⟨h1, h2⟩ := h1
    have g1 : decide ((20 : Int) < (l.length : Int)) = true := by rw [decide_eq_true_eq]; omega
    have g2 : decide ((l.length : Int) ≤ 512) = true := by rw [decide_eq_true_eq]; omega
    go_enter Tryz.func8, Tryz.ntmps8
    go_wp2_with (first | (go_at_call 13; with_reducible refine (HAw.out _ (HT.out.below hB)).mono ?_; rintro e wk ⟨rfl, hb⟩; replace hB := hB.trans (hb.mono hB.size); clear hb))
    go_ret
    exact ⟨rfl, hB⟩
  · have HSm := Lib.hid (show l.length ≤ 512 → l.length ≤ 20 from fun h => by omega)
    have HRd := Lib.hid (fun hs A c w hl ht => gread_any A l.length c l t w hl hn hs t0 t1 ht)
    have HRR := Lib.hid (fun hs w hl => r3read_any A l.length c l t w hl hn hs t0 t1)
    have HL := Lib.hid hl
    have g0 : 20 < l.length → ¬ l.length ≤ 512 := fun h h2 => h1 ⟨h, h2⟩
    clear h1
    by_cases g1 : (20 : Int) < (l.length : Int)
    all_goals
      first
        | have g2 : decide ((l.length : Int) ≤ 512) = false := by rw [decide_eq_false_iff_not]; have := g0 (by omega); omega
          have g3 := decide_eq_true g1
        | have g3 := decide_eq_false g1
      clear g0
      go_enter Tryz.func8, Tryz.ntmps8
      go_wp2_with fail
      go_loopw [5, 23] (fun v iv wr => ∃ k : Nat, k ≤ l.length ∧ iv = .int .i64 k ∧ wr.ownsRow w.heap.size 70 2 v k (shK.vs (l.take k)) ∧ Below w.heap.size w wr ∧ ∀ j (h : j < l.length), j < k → j < 20 → l[j].s.size ≤ 120) (fun _ iv _ => l.length - (intOf iv).toNat)
      case atStart => exact ⟨0, Nat.zero_le _, rfl, World.ownsRow_nil _ _ _ _, Below.refl _ _, fun _ _ h => absurd h (by omega)⟩
      case round =>
        obtain ⟨k, hk, rfl, hown, hb, hall⟩ := hrel
        have hsz := hb.size
        have HAll := Lib.hid hall
        clear hall
        by_cases hlt : k < l.length
        · obtain ⟨b, o, rfl, hbl, hc⟩ := kn_at (hl.below hb) (by omega)
          obtain ⟨p0, p1⟩ := hc k hlt
          have ht := Lib.hid (shK.vs_take l k hlt)
          have HC := Lib.hid (show shK.cs l[k] = [.int .i64 l[k].at_, .string l[k].s] from rfl)
          rw [HC.out] at ht
          have HFw := Lib.hid (fun w => s2few_any l[k].s w)
          have HNx := Lib.hid (show (k < 20 → l[k].s.size ≤ 120) → ∀ j (h : j < l.length), j < k + 1 → j < 20 → l[j].s.size ≤ 120 from fun h1 j h2 h3 h4 => by
            by_cases h5 : j < k
            · exact HAll.out j h2 h5 h4
            · obtain rfl : j = k := by omega
              exact h1 h4)
          generalize l[k].at_ = x at *
          generalize l[k].s = y at *
          clear hc HC
          by_cases k20 : k < 20
          · have d1 : decide ((k : Int) < 20) = true := by rw [decide_eq_true_eq]; omega
            by_cases hf : y.size ≤ 120
            · rw [decide_eq_true hf] at HFw
              have HN := Lib.hid (HNx.out fun _ => hf)
              clear HNx
              go_wp2_with (first | (go_at_call 40; with_reducible refine (HFw.out _).mono ?_; rintro e wk ⟨rfl, rfl⟩) | (at_builtin; refine wpList_push rfl _ _ _ rfl w.heap.size _ _ 2 24 Tryz.underlying40 infoKg rfl (by omega) _ k (shK.vs (l.take k)) rfl (hown.alloc _) [.int .i64 x, .string y] _ _ _ rfl (by first | rfl | simp) rfl (kn_one _ _) (by unfold maxLen; omega) (by omega) (by first | omega | (simp; omega) | simp) ?_; intro g cap w1 hown1 hg1))
              go_roundw
              case rel => exact ⟨k + 1, by omega, by go_num, by rw [ht.out]; exact hown1, below_push (hb.alloc hsz _) (Nat.le_refl _) (hown.alloc _) hg1, HN.out⟩
              case measure => simp [intOf]; omega
            · rw [decide_eq_false hf] at HFw
              have hBa := hb.alloc hsz (.cells #[.int .i64 x, .string y] 68)
              go_wp2_with (first | (go_at_call 40; with_reducible refine (HFw.out _).mono ?_; rintro e wk ⟨rfl, rfl⟩) | (go_at_call 13; with_reducible refine (HAw.out _ (HT.out.below hBa)).mono ?_; rintro e wk ⟨rfl, hb⟩; replace hBa := hBa.trans (hb.mono hBa.size); clear hb))
              go_ret
              exact ⟨rfl, hBa⟩
          · first
            | (exfalso; omega)
            | (have d1 : decide ((k : Int) < 20) = false := by rw [decide_eq_false_iff_not]; omega
               have HN := Lib.hid (HNx.out fun h => absurd h k20)
               clear HNx
               go_wp2_with ((at_builtin; refine wpList_push rfl _ _ _ rfl w.heap.size _ _ 2 24 Tryz.underlying40 infoKg rfl (by omega) _ k (shK.vs (l.take k)) rfl (hown.alloc _) [.int .i64 x, .string y] _ _ _ rfl (by first | rfl | simp) rfl (kn_one _ _) (by unfold maxLen; omega) (by omega) (by first | omega | (simp; omega) | simp) ?_; intro g cap w1 hown1 hg1))
               go_roundw
               case rel => exact ⟨k + 1, by omega, by go_num, by rw [ht.out]; exact hown1, below_push (hb.alloc hsz _) (Nat.le_refl _) (hown.alloc _) hg1, HN.out⟩
               case measure => simp [intOf]; omega)
        · obtain rfl : k = l.length := by omega
          rw [List.take_length] at hown
          obtain ⟨A', c', rfl⟩ := own_form hown
          have hin : shK.In wr A' l.length l := Sh.In.of_own hown rfl
          have hs : l.length ≤ 512 → ∀ g ∈ l, g.s.size ≤ 1000 := fun h g hg => by
            obtain ⟨j, hj, rfl⟩ := List.getElem_of_mem hg
            have := HAll.out j hj hj (by have := HSm.out h; omega)
            omega
          have hR := HRd.out hs A' c' wr hin (HT.out.below hb)
          have hRR := HRR.out hs
          generalize readT l t = X at *
          generalize bendT l = E at *
          have HR1 := Lib.hid hR
          have HR2 := Lib.hid hRR
          clear hR hRR HRd HRR
          go_wp2_with fail
          refine HR1.out.mono ?_
          rintro e w1 ⟨rfl, hb1⟩
          have hB1 := hb.trans (hb1.mono hsz)
          clear hb1
          go_wp2_with fail
          refine (HR2.out _ (HL.out.below hB1)).mono ?_
          rintro e w2 ⟨rfl, hb2⟩
          have hB2 := hB1.trans (hb2.mono hB1.size)
          clear hb2
          go_wp2_with fail
          refine (HAw.out _ (HT.out.below hB2)).mono ?_
          rintro e w3 ⟨rfl, hb3⟩
          have hB3 := hB2.trans (hb3.mono hB2.size)
          clear hb3
          go_wp2_with fail
          go_ret
          exact ⟨rfl, hB3⟩
theorem glide_reads (w : World) (A : Option Addr) (n c : Nat) (l : List Kn) (hl : shK.In w A n l) (_ : ∀ g ∈ l, g.good) (hn : n ≤ maxLen) (hby : n * 24 ≤ reachBytes) (t : Int) (ht : (Lit.int .i64 t).wf = true) (hL : Laid w) :
    Calls Tryz.prog 8 #[.slice A n c, .int .i64 t] w fun e w' => e = .returned (.bool true) ∧ Below w.heap.size w w' :=
  greads_walk w A n c l t hl (by unfold maxLen at hn; omega) (by unfold reachBytes at hby; omega) (int_bd ht).1 (int_bd ht).2 hL.1
end Go.Proofs.YtjnhdimllllgaaaGreatDoor
