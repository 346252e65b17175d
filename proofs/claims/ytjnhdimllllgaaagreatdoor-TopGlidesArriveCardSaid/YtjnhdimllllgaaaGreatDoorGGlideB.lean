/- Lemmas and contracts of functions, joined for the claim: GChain, HChain, GValue, HValue, HKnots, HKnots2, GBend, GRead, HRead, HSame. -/
import Derived.Test.YtjnhdimllllgaaaGreatDoorGGlideA
namespace Go.Proofs.YtjnhdimllllgaaaGreatDoor
open Go.RowKit

theorem bytes_beq (a b : ByteArray) : (a.toList == b.toList) = decide (a = b) := by
  rw [ByteArray.toList_eq, ByteArray.toList_eq, Bool.eq_iff_iff]
  simp only [beq_iff_eq, decide_eq_true_eq]
  exact ⟨fun h => ByteArray.ext (Array.ext' h), fun h => by rw [h]⟩
theorem gl_two {w : World} {A : Option Addr} {n : Nat} {l : List Gl} (h : shG.In w A n l) {j : Nat} (hj : j + 1 < l.length) :
    ∃ b o, A = some ⟨b, o, none⟩ ∧ b < w.heap.size ∧ (w.cell? ⟨b, o + j * 4, none⟩ = some (.string (l[j]'(by omega)).s) ∧ w.cell? ⟨b, o + j * 4 + 1, none⟩ = some (.int .i64 (l[j]'(by omega)).v) ∧ w.cell? ⟨b, o + j * 4 + 2, none⟩ = some (.int .i64 (l[j]'(by omega)).st) ∧ w.cell? ⟨b, o + j * 4 + 3, none⟩ = some (.int .i64 (l[j]'(by omega)).ti)) ∧
      (w.cell? ⟨b, o + (j + 1) * 4, none⟩ = some (.string l[j + 1].s) ∧ w.cell? ⟨b, o + (j + 1) * 4 + 1, none⟩ = some (.int .i64 l[j + 1].v) ∧ w.cell? ⟨b, o + (j + 1) * 4 + 2, none⟩ = some (.int .i64 l[j + 1].st) ∧ w.cell? ⟨b, o + (j + 1) * 4 + 3, none⟩ = some (.int .i64 l[j + 1].ti)) := by
  obtain ⟨b, o, e, hb, hc⟩ := gl_at h (by omega)
  exact ⟨b, o, e, hb, hc j (by omega), hc (j + 1) hj⟩
theorem err_bd {g : Gl} (hs : g.s.size ≤ 1000) (h : g.err = 0) : 0 ≤ g.st ∧ g.st ≤ 10000000 ∧ 0 ≤ g.ti ∧ g.ti ≤ 10000000 := by
  obtain ⟨r, -, -, -, -, -, -, h3, h4, h5, h6⟩ := errG_zero (v := g.v) (st := g.st) (ti := g.ti) hs h
  exact ⟨h3, h4, h5, h6⟩
theorem at_of {g : Gl} (h : g.err = 0) (t : Int) : atT g.s g.v g.st g.ti t = g.of t := by unfold atT Gl.of; rw [if_neg (fun hn => hn h)]
theorem four_keep {w w' : World} {b o : Nat} {v0 v1 v2 v3 : Value} (hb : b < w.heap.size) (h : w.cell? ⟨b, o, none⟩ = some v0 ∧ w.cell? ⟨b, o + 1, none⟩ = some v1 ∧ w.cell? ⟨b, o + 2, none⟩ = some v2 ∧ w.cell? ⟨b, o + 3, none⟩ = some v3) (hB : Below w.heap.size w w') :
    w'.cell? ⟨b, o, none⟩ = some v0 ∧ w'.cell? ⟨b, o + 1, none⟩ = some v1 ∧ w'.cell? ⟨b, o + 2, none⟩ = some v2 ∧ w'.cell? ⟨b, o + 3, none⟩ = some v3 := by
  obtain ⟨hcc, _⟩ := bcell hB
  exact ⟨(hcc _ _ hb).trans h.1, (hcc _ _ hb).trans h.2.1, (hcc _ _ hb).trans h.2.2.1, (hcc _ _ hb).trans h.2.2.2⟩
set_option maxRecDepth 100000 in
set_option maxHeartbeats 8000000 in
theorem gchain_any (A : Option Addr) (n c : Nat) (l : List Gl) (w : World) (hl : shG.In w A n l) (hn : n ≤ 9223372036854775807) (hs : l.length ≤ 256 → ∀ g ∈ l, g.s.size ≤ 1000) (ht : Tab w) :
    Calls Tryz.prog 21 #[.slice A n c] w fun e w' => e = .returned (.int .i64 (chT l)) ∧ Below w.heap.size w w' := by
  obtain ⟨rfl, _⟩ := id hl
  by_cases hbig : 256 < l.length
  · have e : chT l = 5 := if_pos hbig
    rw [e]
    clear e hs
    have hB := Below.refl w.heap.size w
    go_enter Tryz.func21, Tryz.ntmps21
    go_wp2
    go_ret
    exact ⟨rfl, hB⟩
  · have e : chT l = chF none l := if_neg hbig
    rw [e]
    clear e
    have hs := Lib.hid (hs (by omega))
    have HTw := Lib.hid ht
    obtain ⟨E, hE⟩ : ∃ E, E = chF none l := ⟨_, rfl⟩
    rw [← hE]
    have HE := Lib.hid hE
    clear hE ht
    go_enter Tryz.func21, Tryz.ntmps21
    go_wp2
    go_loopw [13] (fun iv wr => ∃ k : Nat, k ≤ l.length ∧ iv = .int .i64 k ∧ ChA l k ∧ Below w.heap.size w wr) (fun iv _ => l.length - (intOf iv).toNat)
    case atStart => exact ⟨0, Nat.zero_le _, rfl, chA_zero l, Below.refl _ _⟩
    case round =>
      obtain ⟨k, hk, rfl, hc, hBr⟩ := hrel
      have HC := Lib.hid hc
      have HBr := Lib.hid hBr
      clear hc
      by_cases hlt : k < l.length
      · rcases k with _ | j
        · obtain ⟨b, o, rfl, hbl, hcell⟩ := gl_at (hl.below hBr) hlt
          obtain ⟨p0, p1, p2, p3⟩ := hcell 0 hlt
          simp only [Nat.zero_mul, Nat.add_zero] at p0 p1 p2 p3
          have hsz := hs.out _ (List.getElem_mem hlt)
          have HF := Lib.hid (chA_first HC.out hlt)
          have HBd := Lib.hid (fun h => chA_bad HC.out hlt h)
          have hch := Lib.hid (fun w ht => gcheck_any l[0].s l[0].v l[0].st l[0].ti w hsz ht)
          have herr : errG l[0].s.data.toList l[0].v l[0].st l[0].ti = l[0].err := rfl
          rw [herr] at hch
          generalize l[0].err = er at *
          generalize l[0].s = S at *
          generalize l[0].v = V at *
          generalize l[0].st = T at *
          generalize l[0].ti = I at *
          clear hcell herr
          obtain ⟨W, hW⟩ : ∃ W, W = wr.alloc (.cells #[.string S, .int .i64 V, .int .i64 T, .int .i64 I] 24) := ⟨_, rfl⟩
          have hG := GBx.fresh wr S V T I
          have hB0 : Below wr.heap.size wr W := by rw [hW]; exact (Below.refl _ wr).alloc (Nat.le_refl _) _
          rw [← hW] at hG
          have HB0 := Lib.hid hB0
          have HT := Lib.hid ((HTw.out.below HBr.out).below hB0)
          have HK := Lib.hid (fun w' (h : Below W.heap.size W w') => hG.below hG.lt h)
          have hB := Below.refl W.heap.size W
          have HW := Lib.hid hW
          obtain ⟨-, c0, c1, c2, c3⟩ := hG
          clear hW hB0 hBr
          by_cases he : er = 0
          · subst he
            have HN := Lib.hid (HF.out rfl)
            clear HF HBd
            go_wp2_with fail
            rw [← HW.out]
            go_wp2_with (go_at_call 29; with_reducible refine (hch.out _ (HT.out.below hB)).mono ?_; rintro e wk ⟨rfl, hb⟩; replace hB := hB.trans (hb.mono hB.size); clear hb; obtain ⟨-, c0, c1, c2, c3⟩ := HK.out _ hB)
            go_roundw
            case rel => exact ⟨0 + 1, by omega, by go_num, HN.out, HBr.out.trans ((HB0.out.trans (hB.mono HB0.out.size)).mono HBr.out.size)⟩
            case measure => simp [intOf]; omega
          · have hf := HBd.out he
            rw [← HE.out] at hf
            subst hf
            have g1 : (E == 0) = false := by simpa using he
            have g2 : (E != 0) = true := by simpa using he
            clear HF HBd
            go_wp2_with fail
            rw [← HW.out]
            go_wp2_with (go_at_call 29; with_reducible refine (hch.out _ (HT.out.below hB)).mono ?_; rintro e wk ⟨rfl, hb⟩; replace hB := hB.trans (hb.mono hB.size); clear hb; obtain ⟨-, c0, c1, c2, c3⟩ := HK.out _ hB)
            go_ret
            exact ⟨rfl, HBr.out.trans ((HB0.out.trans (hB.mono HB0.out.size)).mono HBr.out.size)⟩
        · obtain ⟨b, o, rfl, hbl, hq, hp⟩ := gl_two (hl.below hBr) hlt
          have hj : j < l.length := by omega
          have hsz := hs.out _ (List.getElem_mem hlt)
          have hszq := hs.out _ (List.getElem_mem hj)
          have heq : l[j].err = 0 := HC.out.2 j hj (by omega)
          have HN := Lib.hid (fun he => chA_next HC.out hlt he)
          have HBd := Lib.hid (fun h => chA_bad HC.out hlt h)
          have hch := Lib.hid (fun w ht => gcheck_any l[j + 1].s l[j + 1].v l[j + 1].st l[j + 1].ti w hsz ht)
          have herr : errG l[j + 1].s.data.toList l[j + 1].v l[j + 1].st l[j + 1].ti = l[j + 1].err := rfl
          rw [herr] at hch
          have hbd := fun (h : l[j + 1].err = 0) => err_bd (g := l[j + 1]) hsz h
          have hat := fun (h0 : l[j + 1].err = 0) w ht => gat_any l[j].s l[j].v l[j].st l[j].ti l[j + 1].st w hszq (by have := hbd h0; omega) (by have := hbd h0; omega) ht
          rw [at_of heq, show errG l[j].s.data.toList l[j].v l[j].st l[j].ti = 0 from heq] at hat
          obtain ⟨r2, -, -, -, -, v20, v21, s20, s21, i20, i21⟩ := errG_zero hszq heq
          generalize l[j + 1].err = er at *
          generalize l[j + 1].s = S at *
          generalize l[j + 1].v = V at *
          generalize l[j + 1].st = T at *
          generalize l[j + 1].ti = I at *
          generalize l[j].of T = O at *
          generalize l[j].s = S2 at *
          generalize l[j].v = V2 at *
          generalize l[j].st = T2 at *
          generalize l[j].ti = I2 at *
          have HAt := Lib.hid hat
          have HBd2 := Lib.hid hbd
          clear herr hat heq hsz hszq hbd
          obtain ⟨W, hW⟩ : ∃ W, W = wr.alloc (.cells #[.string S, .int .i64 V, .int .i64 T, .int .i64 I] 24) := ⟨_, rfl⟩
          have hG := GBx.fresh wr S V T I
          have hB0 : Below wr.heap.size wr W := by rw [hW]; exact (Below.refl _ wr).alloc (Nat.le_refl _) _
          rw [← hW] at hG
          have HB0 := Lib.hid hB0
          have HT := Lib.hid ((HTw.out.below HBr.out).below hB0)
          have hbW : b < W.heap.size := Nat.lt_of_lt_of_le hbl hB0.size
          have hq' := four_keep hbl hq hB0
          have HK := Lib.hid (fun w' (h : Below W.heap.size W w') => And.intro (hG.below hG.lt h) (four_keep hbW hq' h))
          have hB := Below.refl W.heap.size W
          have HW := Lib.hid hW
          obtain ⟨p0, p1, p2, p3⟩ := hp
          clear hW hB0 hBr hq hq' hG
          by_cases he : er = 0
          · subst he
            have hn := HN.out rfl
            have HA := Lib.hid (fun w ht => HAt.out rfl w ht)
            obtain ⟨b0, b1, b2, b3⟩ := HBd2.out rfl
            have HN := Lib.hid hn
            clear HBd HAt HBd2 hn
            go_wp2_with fail
            rw [← HW.out]
            go_wp2_with (go_at_call 29; with_reducible refine (hch.out _ (HT.out.below hB)).mono ?_; rintro e wk ⟨rfl, hb⟩; replace hB := hB.trans (hb.mono hB.size); clear hb; obtain ⟨⟨-, c0, c1, c2, c3⟩, q0, q1, q2, q3⟩ := HK.out _ hB)
            clear p0 p1 p2 p3
            by_cases h1 : T < T2
            · have hf := HE.out.trans (HN.out.1 h1)
              subst hf
              go_quiet (fail)
              go_wp2
              go_ret
              exact ⟨rfl, HBr.out.trans ((HB0.out.trans ((below_drewN hB nq).mono HB0.out.size)).mono HBr.out.size)⟩
            · have HN2 := Lib.hid (And.intro (HN.out.2.1 (by omega)) (HN.out.2.2 (by omega)))
              clear HN
              by_cases h2 : S = O
              · have HN3 := Lib.hid (HN2.out.2 h2)
                have g2 : (!O.toList == S.toList) = false := by rw [bytes_beq, decide_eq_true h2.symm]; rfl
                clear HN2 h2
                go_quiet (fail)
                go_wp2_with fail
                replace hB := below_drewN (below_drewN hB nq) 1
                obtain ⟨⟨-, c0, c1, c2, c3⟩, q0, q1, q2, q3⟩ := HK.out _ hB
                have w1 : IntKind.i64.wrap ((j : Int) + 1 - 1) = (j : Int) := by rw [Int.add_sub_cancel]; exact IntWalk.i64_in _ (by omega)
                have w2 : IntKind.i64.wrap (j : Int) = (j : Int) := IntWalk.i64_in _ (by omega)
                have i0 : (0 : Int) ≤ (j : Int) := by omega
                have i1 : (j : Int) < (l.length : Int) := by omega
                go_region_held3 (fun w' => w'.cell? ⟨wr.heap.size, 0, none⟩ = some (.string S) ∧ w'.cell? ⟨wr.heap.size, 1, none⟩ = some (.int .i64 V) ∧ w'.cell? ⟨wr.heap.size, 2, none⟩ = some (.int .i64 T) ∧ w'.cell? ⟨wr.heap.size, 3, none⟩ = some (.int .i64 I) ∧ w'.cell? ⟨b, o + j * 4, none⟩ = some (.string S2) ∧ w'.cell? ⟨b, o + j * 4 + 1, none⟩ = some (.int .i64 V2) ∧ w'.cell? ⟨b, o + j * 4 + 2, none⟩ = some (.int .i64 T2) ∧ w'.cell? ⟨b, o + j * 4 + 3, none⟩ = some (.int .i64 I2)) (exact ⟨c0, c1, c2, c3, q0, q1, q2, q3⟩) ((go_at_call 28; refine (HA.out _ (HT.out.below hB)).mono ?_; rintro e wk ⟨rfl, hb⟩; replace hB := hB.trans (hb.mono hB.size); clear hb; obtain ⟨⟨-, c0, c1, c2, c3⟩, q0, q1, q2, q3⟩ := HK.out _ hB))
                go_wp2
                go_roundw
                case rel => exact ⟨j + 1 + 1, by omega, by go_num, HN3.out, HBr.out.trans ((HB0.out.trans (hB.mono HB0.out.size)).mono HBr.out.size)⟩
                case measure => simp [intOf]; omega
              · have hf := HE.out.trans (HN2.out.1 h2)
                subst hf
                have g2 : (!O.toList == S.toList) = true := by rw [bytes_beq, decide_eq_false (fun h => h2 h.symm)]; rfl
                clear HN2 h2
                go_quiet (fail)
                go_wp2_with fail
                replace hB := below_drewN (below_drewN hB nq) 1
                obtain ⟨⟨-, c0, c1, c2, c3⟩, q0, q1, q2, q3⟩ := HK.out _ hB
                have w1 : IntKind.i64.wrap ((j : Int) + 1 - 1) = (j : Int) := by rw [Int.add_sub_cancel]; exact IntWalk.i64_in _ (by omega)
                have w2 : IntKind.i64.wrap (j : Int) = (j : Int) := IntWalk.i64_in _ (by omega)
                have i0 : (0 : Int) ≤ (j : Int) := by omega
                have i1 : (j : Int) < (l.length : Int) := by omega
                go_region_held3 (fun w' => w'.cell? ⟨wr.heap.size, 0, none⟩ = some (.string S) ∧ w'.cell? ⟨wr.heap.size, 1, none⟩ = some (.int .i64 V) ∧ w'.cell? ⟨wr.heap.size, 2, none⟩ = some (.int .i64 T) ∧ w'.cell? ⟨wr.heap.size, 3, none⟩ = some (.int .i64 I) ∧ w'.cell? ⟨b, o + j * 4, none⟩ = some (.string S2) ∧ w'.cell? ⟨b, o + j * 4 + 1, none⟩ = some (.int .i64 V2) ∧ w'.cell? ⟨b, o + j * 4 + 2, none⟩ = some (.int .i64 T2) ∧ w'.cell? ⟨b, o + j * 4 + 3, none⟩ = some (.int .i64 I2)) (exact ⟨c0, c1, c2, c3, q0, q1, q2, q3⟩) ((go_at_call 28; refine (HA.out _ (HT.out.below hB)).mono ?_; rintro e wk ⟨rfl, hb⟩; replace hB := hB.trans (hb.mono hB.size); clear hb; obtain ⟨⟨-, c0, c1, c2, c3⟩, q0, q1, q2, q3⟩ := HK.out _ hB))
                go_wp2
                go_ret
                exact ⟨rfl, HBr.out.trans ((HB0.out.trans (hB.mono HB0.out.size)).mono HBr.out.size)⟩
          · have hf := HBd.out he
            rw [← HE.out] at hf
            subst hf
            have g1 : (E == 0) = false := by simpa using he
            have g2 : (E != 0) = true := by simpa using he
            clear HN HBd HAt
            go_wp2_with fail
            rw [← HW.out]
            go_wp2_with (go_at_call 29; with_reducible refine (hch.out _ (HT.out.below hB)).mono ?_; rintro e wk ⟨rfl, hb⟩; replace hB := hB.trans (hb.mono hB.size); clear hb; obtain ⟨⟨-, c0, c1, c2, c3⟩, q0, q1, q2, q3⟩ := HK.out _ hB)
            go_ret
            exact ⟨rfl, HBr.out.trans ((HB0.out.trans (hB.mono HB0.out.size)).mono HBr.out.size)⟩
      · have hf := Lib.hid (HE.out.trans (chA_end HC.out hlt))
        obtain rfl : k = l.length := by omega
        have hf := hf.out
        subst hf
        go_wp2
        go_ret
        exact ⟨rfl, HBr.out⟩
end Go.Proofs.YtjnhdimllllgaaaGreatDoor

namespace Go.Proofs.YtjnhdimllllgaaaGreatDoor
open Go.RowKit

theorem two_keep {w w' : World} {b o : Nat} {v0 v1 : Value} (hb : b < w.heap.size) (h : w.cell? ⟨b, o, none⟩ = some v0 ∧ w.cell? ⟨b, o + 1, none⟩ = some v1) (hB : Below w.heap.size w w') :
    w'.cell? ⟨b, o, none⟩ = some v0 ∧ w'.cell? ⟨b, o + 1, none⟩ = some v1 := by
  obtain ⟨hcc, _⟩ := bcell hB
  exact ⟨(hcc _ _ hb).trans h.1, (hcc _ _ hb).trans h.2⟩
theorem two_keep0 {w w' : World} {b : Nat} {v0 v1 : Value} (hb : b < w.heap.size) (h : w.cell? ⟨b, 0, none⟩ = some v0 ∧ w.cell? ⟨b, 1, none⟩ = some v1) (hB : Below w.heap.size w w') :
    w'.cell? ⟨b, 0, none⟩ = some v0 ∧ w'.cell? ⟨b, 1, none⟩ = some v1 := two_keep (o := 0) hb h hB
theorem kbx_fresh (w : World) (a : Int) (s : ByteArray) (t : TypeId) : (w.alloc (.cells #[.int .i64 a, .string s] t)).cell? ⟨w.heap.size, 0, none⟩ = some (.int .i64 a) ∧ (w.alloc (.cells #[.int .i64 a, .string s] t)).cell? ⟨w.heap.size, 1, none⟩ = some (.string s) :=
  ⟨by rw [World.cell?_alloc_new]; rfl, by rw [World.cell?_alloc_new]; rfl⟩
theorem kn_two {w : World} {A : Option Addr} {n : Nat} {l : List Kn} (h : shK.In w A n l) {j : Nat} (hj : j + 1 < l.length) :
    ∃ b o, A = some ⟨b, o, none⟩ ∧ b < w.heap.size ∧ (w.cell? ⟨b, o + j * 2, none⟩ = some (.int .i64 (l[j]'(by omega)).at_) ∧ w.cell? ⟨b, o + j * 2 + 1, none⟩ = some (.string (l[j]'(by omega)).s)) ∧
      (w.cell? ⟨b, o + (j + 1) * 2, none⟩ = some (.int .i64 l[j + 1].at_) ∧ w.cell? ⟨b, o + (j + 1) * 2 + 1, none⟩ = some (.string l[j + 1].s)) := by
  obtain ⟨b, o, e, hb, hc⟩ := kn_at h (by omega)
  exact ⟨b, o, e, hb, hc j (by omega), hc (j + 1) hj⟩
set_option maxRecDepth 100000 in
set_option maxHeartbeats 8000000 in
theorem gbend_any (A : Option Addr) (n c : Nat) (l : List Kn) (w : World) (hl : shK.In w A n l) (hn : n ≤ 9223372036854775807) (hs : l.length ≤ 512 → ∀ g ∈ l, g.s.size ≤ 1000) (ht : Tab w) :
    Calls Tryz.prog 74 #[.slice A n c] w fun e w' => e = .returned (.int .i64 (bendT l)) ∧ Below w.heap.size w w' := by
  obtain ⟨rfl, _⟩ := id hl
  have hB := Below.refl w.heap.size w
  by_cases h0 : l.length = 0
  · have e : bendT l = 12 := if_pos h0
    rw [e]
    obtain rfl := List.length_eq_zero_iff.1 h0
    simp only [List.length_nil] at *
    clear e hs hl
    go_enter Tryz.func74, Tryz.ntmps74
    go_wp2
    go_ret
    exact ⟨rfl, hB⟩
  by_cases hbig : 512 < l.length
  · have e : bendT l = 5 := by unfold bendT; rw [if_neg h0, if_pos hbig]
    rw [e]
    have g0 : ((l.length : Int) == 0) = false := by rw [beq_eq_false_iff_ne]; omega
    clear e hs
    go_enter Tryz.func74, Tryz.ntmps74
    go_wp2
    go_ret
    exact ⟨rfl, hB⟩
  have e : bendT l = knF none l := by unfold bendT; rw [if_neg h0, if_neg hbig]
  rw [e]
  clear e
  have g0 : ((l.length : Int) == 0) = false := by rw [beq_eq_false_iff_ne]; omega
  have hs := Lib.hid (hs (by omega))
  have HTw := Lib.hid ht
  obtain ⟨E, hE⟩ : ∃ E, E = knF none l := ⟨_, rfl⟩
  rw [← hE]
  have HE := Lib.hid hE
  clear hE ht hB
  go_enter Tryz.func74, Tryz.ntmps74
  go_wp2
  go_loopw [16] (fun iv wr => ∃ k : Nat, k ≤ l.length ∧ iv = .int .i64 k ∧ KnA l k ∧ Below w.heap.size w wr) (fun iv _ => l.length - (intOf iv).toNat)
  case atStart => exact ⟨0, Nat.zero_le _, rfl, knA_zero l, Below.refl _ _⟩
  case round =>
    obtain ⟨k, hk, rfl, hc, hBr⟩ := hrel
    have HC := Lib.hid hc
    have HBr := Lib.hid hBr
    clear hc
    by_cases hlt : k < l.length
    · have hsz := hs.out _ (List.getElem_mem hlt)
      have hlv := Lib.hid (fun w ht => glevel_any l[k].s w hsz ht)
      have HStep := Lib.hid (knA_step HC.out hlt)
      obtain ⟨b, o, rfl, hbl0, hcell⟩ := kn_at (hl.below hBr) (by omega)
      have hp := hcell k hlt
      have hNx : inT 20000000 l[k].at_ = true → errLv l[k].s.data.toList = 0 → (k = 0 → KnA l 1) ∧ (∀ j, ∀ h : k = j + 1, (l[k].at_ < (l[j]'(by omega)).at_ → knF none l = 9) ∧ (¬ l[k].at_ < (l[j]'(by omega)).at_ → KnA l (j + 1 + 1))) := by
        intro h1 h2
        refine ⟨fun h => by subst h; exact knA_first hlt h1 h2, fun j h => ?_⟩
        subst h
        exact knA_next HC.out hlt h1 h2
      have hq : ∀ j, ∀ h : k = j + 1, wr.cell? ⟨b, o + j * 2, none⟩ = some (.int .i64 (l[j]'(by omega)).at_) := fun j h => (hcell j (by omega)).1
      have HNx := Lib.hid hNx
      obtain ⟨a, ha⟩ : ∃ a, l[k].at_ = a := ⟨_, rfl⟩
      obtain ⟨S, hS⟩ : ∃ S, l[k].s = S := ⟨_, rfl⟩
      rw [ha] at hp HStep HNx
      rw [hS] at hp hlv HStep HNx
      obtain ⟨b1, hb1⟩ : ∃ b1, inT 20000000 a = b1 := ⟨_, rfl⟩
      have hbd : b1 = true → 0 ≤ a ∧ a ≤ 20000000 := fun h => by rw [h] at hb1; simpa [inT] using hb1
      rw [hb1] at HStep HNx
      have hwi := fun w => gwithin_one 20000000 a w
      rw [hb1] at hwi
      obtain ⟨er, her⟩ : ∃ er, errLv S.data.toList = er := ⟨_, rfl⟩
      rw [her] at hlv HStep HNx
      obtain ⟨W, hW⟩ : ∃ W, W = wr.alloc (.cells #[.int .i64 a, .string S] 70) := ⟨_, rfl⟩
      have hG := kbx_fresh wr a S 70
      have hB0 : Below wr.heap.size wr W := by rw [hW]; exact (Below.refl _ wr).alloc (Nat.le_refl _) _
      have hlW : wr.heap.size < W.heap.size := by rw [hW]; simp
      have hWs : W.heap.size = wr.heap.size + 1 := by rw [hW]; simp
      have hwi2 := hwi W
      rw [show (⟨W.heap.size, 0, none⟩ : Addr) = ⟨wr.heap.size + 1, 0, none⟩ by rw [hWs]] at hwi2
      have HWi := Lib.hid hwi2
      rw [← hW] at hG
      have HB0 := Lib.hid hB0
      have HT := Lib.hid ((HTw.out.below HBr.out).below hB0)
      have HK := Lib.hid (fun w' (h : Below W.heap.size W w') => two_keep0 hlW hG h)
      have hB := Below.refl W.heap.size W
      have HW := Lib.hid hW
      have HQ := Lib.hid hq
      have Hbl := Lib.hid hbl0
      obtain ⟨c0, c1⟩ := hG
      obtain ⟨p0, p1⟩ := hp
      clear hwi hwi2 hWs hW hB0 hBr hcell hNx ha hS hb1 her hsz hq hbl0
      have fin : ∀ w', Below W.heap.size W w' → Below w.heap.size w w' := fun w' h => HBr.out.trans ((HB0.out.trans (h.mono HB0.out.size)).mono HBr.out.size)
      have HFin := Lib.hid fin
      clear fin
      cases b1 with
      | false =>
        have hf := HE.out.trans (HStep.out.1 rfl)
        subst hf
        go_wp2_with fail
        rw [← HW.out]
        go_wp2_with (go_at_call 58; with_reducible refine HWi.out.mono ?_; rintro e wk ⟨rfl, hb⟩; replace hB := hB.trans (hb.mono hB.size); clear hb; obtain ⟨c0, c1⟩ := HK.out _ hB)
        go_ret
        exact ⟨rfl, HFin.out _ hB⟩
      | true =>
        obtain ⟨a0, a1⟩ := hbd rfl
        clear hbd
        by_cases he : er = 0
        · subst he
          have HN := Lib.hid (HNx.out rfl rfl)
          clear HNx HStep
          rcases k with _ | j
          · have HN2 := Lib.hid (HN.out.1 rfl)
            clear HN
            simp only [Nat.zero_mul, Nat.add_zero] at p0 p1
            go_wp2_with fail
            rw [← HW.out]
            go_wp2_with (first | (go_at_call 58; with_reducible refine HWi.out.mono ?_; rintro e wk ⟨rfl, hb⟩; replace hB := hB.trans (hb.mono hB.size); clear hb; obtain ⟨c0, c1⟩ := HK.out _ hB) | (go_at_call 66; with_reducible refine (hlv.out _ (HT.out.below hB)).mono ?_; rintro e wk ⟨rfl, hb⟩; replace hB := hB.trans (hb.mono hB.size); clear hb; obtain ⟨c0, c1⟩ := HK.out _ hB))
            have hd : decide ((0 : Int) < 0) = false := by decide
            go_quiet (fail)
            go_wp2
            go_roundw
            case rel => exact ⟨0 + 1, by omega, by go_num, HN2.out, HFin.out _ (below_drewN hB nq)⟩
            case measure => simp [intOf]; omega
          · have HN2 := Lib.hid (HN.out.2 j rfl)
            have q0 := (HB0.out.cell (p := ⟨b, o + j * 2, none⟩) Hbl.out).trans (HQ.out j rfl)
            have hbW : b < W.heap.size := Nat.lt_of_lt_of_le Hbl.out HB0.out.size
            generalize (l[j]'(by omega)).at_ = a2 at *
            have HK2 := Lib.hid (fun w' (h : Below W.heap.size W w') => And.intro (HK.out w' h) ((bcell h).1 b (o + j * 2) hbW |>.trans q0))
            have HK := HK2
            clear HN HK2 HQ q0
            have w1 : IntKind.i64.wrap ((j : Int) + 1 - 1) = (j : Int) := by rw [Int.add_sub_cancel]; exact IntWalk.i64_in _ (by omega)
            have w2 : IntKind.i64.wrap (j : Int) = (j : Int) := IntWalk.i64_in _ (by omega)
            have i0 : (0 : Int) ≤ (j : Int) := by omega
            have i1 : (j : Int) < (l.length : Int) := by omega
            have hd : decide ((0 : Int) < (j : Int) + 1) = true := by rw [decide_eq_true_eq]; omega
            go_wp2_with fail
            rw [← HW.out]
            go_wp2_with (first | (go_at_call 58; with_reducible refine HWi.out.mono ?_; rintro e wk ⟨rfl, hb⟩; replace hB := hB.trans (hb.mono hB.size); clear hb; obtain ⟨⟨c0, c1⟩, q0⟩ := HK.out _ hB) | (go_at_call 66; with_reducible refine (hlv.out _ (HT.out.below hB)).mono ?_; rintro e wk ⟨rfl, hb⟩; replace hB := hB.trans (hb.mono hB.size); clear hb; obtain ⟨⟨c0, c1⟩, q0⟩ := HK.out _ hB))
            by_cases h1 : a < a2
            · have hf := HE.out.trans (HN2.out.1 h1)
              subst hf
              go_quiet (fail)
              go_wp2
              go_ret
              exact ⟨rfl, HFin.out _ (below_drewN hB nq)⟩
            · have HN3 := Lib.hid (HN2.out.2 (by omega))
              clear HN2
              go_quiet (fail)
              go_wp2
              go_roundw
              case rel => exact ⟨j + 1 + 1, by omega, by go_num, HN3.out, HFin.out _ (below_drewN hB nq)⟩
              case measure => simp [intOf]; omega
        · have hf := HE.out.trans (HStep.out.2 rfl he)
          subst hf
          have g1 : (E == 0) = false := by simpa using he
          have g2 : (E != 0) = true := by simpa using he
          clear HNx HStep
          go_wp2_with fail
          rw [← HW.out]
          go_wp2_with (first | (go_at_call 58; with_reducible refine HWi.out.mono ?_; rintro e wk ⟨rfl, hb⟩; replace hB := hB.trans (hb.mono hB.size); clear hb; obtain ⟨c0, c1⟩ := HK.out _ hB) | (go_at_call 66; with_reducible refine (hlv.out _ (HT.out.below hB)).mono ?_; rintro e wk ⟨rfl, hb⟩; replace hB := hB.trans (hb.mono hB.size); clear hb; obtain ⟨c0, c1⟩ := HK.out _ hB))
          go_ret
          exact ⟨rfl, HFin.out _ hB⟩
    · have hf := HE.out.trans (knA_end HC.out hlt)
      obtain rfl : k = l.length := by omega
      subst hf
      go_wp2
      go_ret
      exact ⟨rfl, HBr.out⟩
end Go.Proofs.YtjnhdimllllgaaaGreatDoor

namespace Go.Proofs.YtjnhdimllllgaaaGreatDoor
open Go.RowKit

theorem ix_take {α : Type} {f : α → Int} {l : List α} (hup : ∀ i j (_ : i ≤ j) (hj : j < l.length), f (l[i]'(by omega)) ≤ f l[j]) {k : Nat} (hk : k < l.length) {t : Int} :
    (f l[k] ≤ t → ixT f (l.take (k + 1)) t = k + 1) ∧ (¬ f l[k] ≤ t → ixT f (l.take (k + 1)) t = ixT f (l.take k) t) := by
  have hl : (l.take (k + 1)).length = k + 1 := by simp; omega
  have hl2 : (l.take k).length = k := by simp; omega
  refine ⟨fun h1 => ?_, fun h1 => ?_⟩
  · exact ixT_is (by omega) (fun j hj _ => by
      rw [List.getElem_take]
      exact Int.le_trans (hup j k (by omega) hk) h1) (fun h => absurd h (by omega))
  · have hle := ixT_le f (l.take k) t
    rw [hl2] at hle
    exact ixT_is (by omega) (fun j hj h3 => by
      have := ixT_lt (f := f) (l := l.take k) (t := t) (j := j) (by omega) h3
      rw [List.getElem_take] at this ⊢
      exact this) (fun h3 => by
      rw [List.getElem_take]
      by_cases h4 : ixT f (l.take k) t < k
      · have := ixT_at (f := f) (l := l.take k) (t := t) (by omega)
        rw [List.getElem_take] at this
        exact this
      · have h5 : ixT f (l.take k) t = k := by omega
        simp only [h5]
        omega)
theorem lev_right {s : ByteArray} (hs : s.size ≤ 1000) (h : errLv s.data.toList = 0) : ∃ r, s = sR r ∧ SzR 1000 r ∧ valR s.data.toList = r ∧ InL r := by
  rcases lev_cases s hs with ⟨hc, he⟩ | ⟨r, hr, hz, hv, hc, ⟨hi, he⟩ | ⟨hi, he⟩⟩
  · omega
  · omega
  · exact ⟨r, hr, hz, hv, hi⟩
theorem bendT_le {l : List Kn} (h : bendT l = 0) : 0 < l.length ∧ l.length ≤ 512 ∧ knF none l = 0 := by
  unfold bendT at h
  by_cases h0 : l.length = 0
  · rw [if_pos h0] at h; cases h
  rw [if_neg h0] at h
  by_cases h1 : 512 < l.length
  · rw [if_pos h1] at h; cases h
  · rw [if_neg h1] at h; exact ⟨by omega, by omega, h⟩
theorem kn_up {l : List Kn} (h : knF none l = 0) : ∀ i j (_ : i ≤ j) (hj : j < l.length), (l[i]'(by omega)).at_ ≤ l[j].at_ := fun _ _ hij hj => at_up (knF_up h).2.1 hij hj

theorem rd_parts {l : List Kn} (h : knF none l = 0) (hs : ∀ g ∈ l, g.s.size ≤ 1000) {t : Int} {i : Nat} (hi : ixT (·.at_) l t = i + 1) (hj : i + 1 < l.length) :
    ∃ r1 r2 : Rat, (l[i]'(by omega)).s = sR r1 ∧ l[i + 1].s = sR r2 ∧ SzR 1000 r1 ∧ SzR 1000 r2 ∧ 0 ≤ (l[i]'(by omega)).at_ ∧ (l[i]'(by omega)).at_ ≤ t ∧ t < l[i + 1].at_ ∧ l[i + 1].at_ ≤ 20000000 ∧
      rdT l t = sR (mixR r1 r2 (Rat.divInt (t - (l[i]'(by omega)).at_) (l[i + 1].at_ - (l[i]'(by omega)).at_))) := by
  obtain ⟨k1, k2, -⟩ := knF_up h
  have hi1 : i < l.length := by omega
  obtain ⟨a1, a2⟩ := k1 _ (List.getElem_mem hi1)
  obtain ⟨b1, b2⟩ := k1 _ (List.getElem_mem hj)
  obtain ⟨r1, e1, z1, v1, -⟩ := lev_right (hs _ (List.getElem_mem hi1)) a2
  obtain ⟨r2, e2, z2, v2, -⟩ := lev_right (hs _ (List.getElem_mem hj)) b2
  have h1 := ixT_lt (f := fun k : Kn => k.at_) hi1 (show i < ixT (·.at_) l t by omega)
  have h2 := ixT_at (f := fun k : Kn => k.at_) (l := l) (t := t) (by rw [hi]; omega)
  simp only [hi] at h2
  simp [inT] at a1 b1
  refine ⟨r1, r2, e1, e2, z1, z2, a1.1, h1, h2, b1.2, ?_⟩
  have d : ∀ j (hj : j < l.length), l.getD j noK = l[j] := fun j hj => by simp [List.getD, hj]
  unfold rdT
  simp only [hi]
  rw [if_neg (by omega), if_neg (by omega), Nat.add_sub_cancel, d i hi1, d (i + 1) hj, v1, v2]
set_option maxRecDepth 100000 in
set_option maxHeartbeats 8000000 in
theorem gread_any (A : Option Addr) (n c : Nat) (l : List Kn) (t : Int) (w : World) (hl : shK.In w A n l) (hn : n ≤ 9223372036854775807) (hs : l.length ≤ 512 → ∀ g ∈ l, g.s.size ≤ 1000) (_t0 : -9223372036854775808 ≤ t) (_t1 : t ≤ 9223372036854775807) (ht : Tab w) :
    Calls Tryz.prog 41 #[.slice A n c, .int .i64 t] w fun e w' => e = .returned (.tuple #[.string (readT l t), .int .i64 (bendT l)]) ∧ Below w.heap.size w w' := by
  obtain ⟨rfl, _⟩ := id hl
  have HC := Lib.hid (fun w hl ht => gbend_any A l.length c l w hl hn hs ht)
  have hV : readT l t = if bendT l ≠ 0 then ⟨#[]⟩ else rdT l t := rfl
  have hB := Below.refl w.heap.size w
  have HT := Lib.hid ht
  have HL := Lib.hid hl
  by_cases h1 : bendT l = 0
  · rw [if_neg (by simpa using h1)] at hV
    obtain ⟨hp, hl5, hk⟩ := bendT_le h1
    rw [hV, h1]
    rw [h1] at HC
    have Hk := Lib.hid hk
    have Hs := Lib.hid (hs hl5)
    clear hV h1 hk hs ht hl
    go_enter Tryz.func41, Tryz.ntmps41
    go_wp2_with (go_at_call 74; with_reducible refine (HC.out _ (HL.out.below hB) (HT.out.below hB)).mono ?_; rintro e wk ⟨rfl, hb⟩; replace hB := hB.trans (hb.mono hB.size); clear hb; obtain ⟨b, o, rfl, hbl, hcell⟩ := kn_at (HL.out.below hB) hp)
    have HCell := Lib.hid hcell
    have HBk := Lib.hid hB
    clear hcell hB
    go_loopw [7, 19] (fun at_ iv wr => ∃ k : Nat, k ≤ l.length ∧ iv = .int .i64 k ∧ at_ = .int .i64 ((ixT (fun q : Kn => q.at_) (l.take k) t : Int) - 1) ∧ Below wk.heap.size wk wr) (fun _ iv _ => l.length - (intOf iv).toNat)
    case atStart => exact ⟨0, Nat.zero_le _, rfl, by simp [ixT], Below.refl _ _⟩
    case round =>
      obtain ⟨k, hk, rfl, rfl, hBr⟩ := hrel
      have HBr := Lib.hid hBr
      have hsz := hBr.size
      by_cases hlt : k < l.length
      · obtain ⟨p0, p1⟩ := two_keep hbl (HCell.out k hlt) hBr
        obtain ⟨s1, s2⟩ := ix_take (f := fun q : Kn => q.at_) (kn_up Hk.out) hlt (t := t)
        generalize hI0 : (ixT (fun q : Kn => q.at_) (l.take k) t : Int) - 1 = I0
        have HI0 := Lib.hid hI0
        clear hI0
        generalize l[k].at_ = a at *
        generalize l[k].s = S at *
        have HS1 := Lib.hid s1
        have HS2 := Lib.hid s2
        clear s1 s2 hBr
        by_cases h1 : a ≤ t
        · have e := Lib.hid (HS1.out h1)
          clear HS1 HS2
          go_wp2
          go_roundw
          case rel => exact ⟨k + 1, by omega, by go_num, by rw [e.out]; go_num, HBr.out.alloc hsz _⟩
          case measure => simp [intOf]; omega
        · have e := Lib.hid (HS2.out h1)
          clear HS1 HS2
          go_wp2
          go_roundw
          case rel => exact ⟨k + 1, by omega, by go_num, by rw [e.out, HI0.out], HBr.out.alloc hsz _⟩
          case measure => simp [intOf]; omega
      · obtain rfl : k = l.length := by omega
        rw [List.take_length]
        have hle := ixT_le (fun q : Kn => q.at_) l t
        have hfin : ∀ w', Below wr.heap.size wr w' → Below w.heap.size w w' := fun w' h => HBk.out.trans ((HBr.out.trans (h.mono hsz)).mono HBk.out.size)
        have HFin := Lib.hid hfin
        have HT2 := Lib.hid ((HT.out.below HBk.out).below HBr.out)
        have hR : rdT l t = if ixT (fun q : Kn => q.at_) l t = 0 then (l.getD 0 noK).s else if ixT (fun q : Kn => q.at_) l t = l.length then (l.getD (ixT (fun q : Kn => q.at_) l t - 1) noK).s else rdT l t := by
          by_cases h0 : ixT (fun q : Kn => q.at_) l t = 0
          · rw [if_pos h0]; unfold rdT; simp only; rw [if_pos h0]
          · rw [if_neg h0]
            by_cases h2 : ixT (fun q : Kn => q.at_) l t = l.length
            · rw [if_pos h2]; unfold rdT; simp only; rw [if_neg h0, if_pos h2]
            · rw [if_neg h2]
        have hd : ∀ j (hj : j < l.length), l.getD j noK = l[j] := fun j hj => by simp [List.getD, hj]
        have hP := fun i (hi : ixT (fun q : Kn => q.at_) l t = i + 1) (hj : i + 1 < l.length) => rd_parts Hk.out Hs.out hi hj
        obtain ⟨R, hRR⟩ : ∃ R, rdT l t = R := ⟨_, rfl⟩
        rw [hRR] at hR hP
        have HR := Lib.hid hRR
        generalize ixT (fun q : Kn => q.at_) l t = ix at *
        clear hfin hRR
        by_cases h0 : ix = 0
        · subst h0
          rw [if_pos rfl, hd 0 hp] at hR
          obtain ⟨p0, p1⟩ := two_keep hbl (HCell.out 0 hp) hBr
          simp only [Nat.zero_mul, Nat.add_zero] at p0 p1
          have HR2 := Lib.hid hR
          clear hR hd hP hBr
          go_wp2
          go_ret2
          exact ⟨by rw [HR.out, HR2.out]; rfl, HFin.out _ (Below.refl _ _)⟩
        · obtain ⟨i, rfl⟩ : ∃ i, ix = i + 1 := ⟨ix - 1, by omega⟩
          rw [if_neg h0] at hR
          have ec : ((i + 1 : Nat) : Int) - 1 = (i : Int) := by omega
          rw [ec]
          by_cases h2 : i + 1 = l.length
          · rw [if_pos h2, Nat.add_sub_cancel, hd i (by omega)] at hR
            obtain ⟨p0, p1⟩ := two_keep hbl (HCell.out i (by omega)) hBr
            have HR2 := Lib.hid hR
            have g1 : ((i : Int) == (l.length : Int) - 1) = true := by rw [beq_iff_eq]; omega
            have hi1 : (i : Int) < (l.length : Int) := by omega
            have w1 : IntKind.i64.wrap ((l.length : Int) - 1) = (l.length : Int) - 1 := IntWalk.i64_in _ (by omega)
            clear hR hd hP hBr h0 ec
            go_wp2
            go_ret2
            exact ⟨by rw [HR.out, HR2.out]; rfl, HFin.out _ (Below.refl _ _)⟩
          · have hj : i + 1 < l.length := by omega
            obtain ⟨r1, r2, e1, e2, z1, z2, a0, a1, b0, b1, eR⟩ := hP i rfl hj
            have hBt := fun w ht => gbetween_fit z1 z2 (p := t - (l[i]'(by omega)).at_) (q := l[i + 1].at_ - (l[i]'(by omega)).at_) (by omega) (by omega) (by omega) (by omega) (by omega) w ht
            rw [← e1, ← e2, ← eR] at hBt
            have HBt := Lib.hid hBt
            obtain ⟨p0, p1⟩ := two_keep hbl (HCell.out i (by omega)) hBr
            obtain ⟨q0, q1⟩ := two_keep hbl (HCell.out (i + 1) hj) hBr
            generalize (l[i]'(by omega)).at_ = a at *
            generalize (l[i]'(by omega)).s = S1 at *
            generalize l[i + 1].at_ = a2 at *
            generalize l[i + 1].s = S2 at *
            have g1 : ((i : Int) == (l.length : Int) - 1) = false := by rw [beq_eq_false_iff_ne]; omega
            have hi1 : (i : Int) < (l.length : Int) := by omega
            have hi2 : (i : Int) + 1 < (l.length : Int) := by omega
            have w1 : IntKind.i64.wrap ((l.length : Int) - 1) = (l.length : Int) - 1 := IntWalk.i64_in _ (by omega)
            have w2 : IntKind.i64.wrap ((i : Int) + 1) = (i : Int) + 1 := IntWalk.i64_in _ (by omega)
            have w3 : IntKind.i64.wrap (t - a) = t - a := IntWalk.i64_in _ (by omega)
            have w4 : IntKind.i64.wrap (a2 - a) = a2 - a := IntWalk.i64_in _ (by omega)
            have i3 : (0 : Int) ≤ (i : Int) + 1 := by omega
            have i4 : (0 : Int) ≤ (i : Int) := by omega
            have hb1 : b < wr.heap.size := by omega
            have hb2 : ¬ b = wr.heap.size := by omega
            have hb3 : ¬ b = wr.heap.size + 1 := by omega
            have hb4 : b < wr.heap.size + 1 := by omega
            clear hR hd hP h0 ec hBt eR e1 e2 z1 z2
            go_wp2_with fail
            go_region
            all_goals
              go_wp2_with (go_at_call 65; with_reducible refine (HBt.out _ (HT2.out.below (by (repeat (first | exact Below.refl _ _ | assumption | apply Below.drew | apply below_drewN | (refine Below.alloc ?_ (by first | omega | (simp; omega) | simp) _) | (refine Below.setCell ?_ (by first | omega | (simp; omega) | simp) _) | (refine Below.trans ?_ (Below.mono (by assumption) (by first | omega | (simp; omega) | simp)))))))).mono ?_; rintro e w3 ⟨rfl, hb⟩; have HB3 := Lib.hid hb; clear hb)
              go_ret2
              exact ⟨by rw [HR.out]; rfl, HFin.out _ (Below.trans (by (repeat (first | exact Below.refl _ _ | assumption | apply Below.drew | apply below_drewN | (refine Below.alloc ?_ (by first | omega | (simp; omega) | simp) _) | (refine Below.setCell ?_ (by first | omega | (simp; omega) | simp) _) | (refine Below.trans ?_ (Below.mono (by assumption) (by first | omega | (simp; omega) | simp)))))) (HB3.out.mono (by simp; omega)))⟩
  · have g1 : (bendT l == 0) = false := by simpa using h1
    have g2 : (bendT l != 0) = true := by simpa using h1
    rw [if_pos h1] at hV
    rw [hV]
    generalize bendT l = k at *
    clear hV ht hl h1
    go_enter Tryz.func41, Tryz.ntmps41
    go_wp2_with (go_at_call 74; with_reducible refine (HC.out _ (HL.out.below hB) (HT.out.below hB)).mono ?_; rintro e wk ⟨rfl, hb⟩; replace hB := hB.trans (hb.mono hB.size); clear hb)
    go_ret2
    exact ⟨rfl, hB⟩
end Go.Proofs.YtjnhdimllllgaaaGreatDoor

namespace Go.Proofs.YtjnhdimllllgaaaGreatDoor
open Go.RowKit

theorem chT_le {l : List Gl} (h : chT l = 0) : l.length ≤ 256 ∧ chF none l = 0 := by
  unfold chT at h
  by_cases h1 : 256 < l.length
  · rw [if_pos h1] at h; cases h
  · rw [if_neg h1] at h; exact ⟨by omega, h⟩
theorem now_take {l : List Gl} (h : chF none l = 0) {k : Nat} (hk : k < l.length) {t : Int} (_h0 : 0 < l.length) :
    (l[k].st ≤ t → nowT (l.take (k + 1)) t = l[k]) ∧ (¬ l[k].st ≤ t → 0 < k → nowT (l.take (k + 1)) t = nowT (l.take k) t) := by
  have hl : (l.take (k + 1)).length = k + 1 := by simp; omega
  have hl2 : (l.take k).length = k := by simp; omega
  refine ⟨fun h1 => ?_, fun h1 h2 => ?_⟩
  · have e : ixT (·.st) (l.take (k + 1)) t = k + 1 := ixT_is (by omega) (fun j hj _ => by
      rw [List.getElem_take]
      exact Int.le_trans (st_up h (i := j) (j := k) (by omega) hk) h1) (fun h => absurd h (by omega))
    unfold nowT
    rw [e, Nat.add_sub_cancel]
    simp [List.getD, hk]
  · have hle := ixT_le (·.st) (l.take k) t
    rw [hl2] at hle
    have e : ixT (·.st) (l.take (k + 1)) t = ixT (·.st) (l.take k) t := ixT_is (by omega) (fun j hj h3 => by
      have := ixT_lt (f := (·.st)) (l := l.take k) (t := t) (j := j) (by omega) h3
      rw [List.getElem_take] at this ⊢
      exact this) (fun h3 => by
      rw [List.getElem_take]
      by_cases h4 : ixT (·.st) (l.take k) t < k
      · have := ixT_at (f := (·.st)) (l := l.take k) (t := t) (by omega)
        rw [List.getElem_take] at this
        exact this
      · have h5 : ixT (·.st) (l.take k) t = k := by omega
        simp only [h5]
        omega)
    unfold nowT
    rw [e]
    have h5 : ixT (·.st) (l.take k) t - 1 < k := by omega
    simp [List.getD, h5, show ixT (fun x : Gl => x.st) (l.take k) t - 1 < k + 1 by omega]
theorem now_one {l : List Gl} (h0 : 0 < l.length) (t : Int) : nowT (l.take 1) t = l[0] := by
  have hle := ixT_le (·.st) (l.take 1) t
  have hl : (l.take 1).length = 1 := by simp; omega
  have e : ixT (·.st) (l.take 1) t - 1 = 0 := by omega
  unfold nowT
  rw [e]
  simp [List.getD, h0]

structure GBf (s : ByteArray) (v st ti : Int) (P : Nat) (w : World) : Prop where
  x : GBx s v st ti P w
  f0 : w.frozen? ⟨P, 0, none⟩ = false
  f1 : w.frozen? ⟨P, 1, none⟩ = false
  f2 : w.frozen? ⟨P, 2, none⟩ = false
  f3 : w.frozen? ⟨P, 3, none⟩ = false
theorem GBf.fresh (w : World) (s : ByteArray) (v st ti : Int) : GBf s v st ti w.heap.size (w.alloc (.cells #[.string s, .int .i64 v, .int .i64 st, .int .i64 ti] 24)) :=
  ⟨GBx.fresh w s v st ti, World.frozen?_alloc_new .., World.frozen?_alloc_new .., World.frozen?_alloc_new .., World.frozen?_alloc_new ..⟩
theorem GBf.below {s : ByteArray} {v st ti : Int} {P : Nat} {w w' : World} (h : GBf s v st ti P w) (hb : Below w.heap.size w w') : GBf s v st ti P w' := by
  obtain ⟨_, hcf⟩ := bcell hb
  have hP := h.x.lt
  exact ⟨h.x.below hP hb, (hcf _ _ hP).trans h.f0, (hcf _ _ hP).trans h.f1, (hcf _ _ hP).trans h.f2, (hcf _ _ hP).trans h.f3⟩
theorem GBf.set {s : ByteArray} {v st ti : Int} {P : Nat} {w : World} (h : GBf s v st ti P w) (s' : ByteArray) (v' st' ti' : Int) :
    GBf s' v' st' ti' P ((((w.setCell ⟨P, 0, none⟩ (.string s')).setCell ⟨P, 1, none⟩ (.int .i64 v')).setCell ⟨P, 2, none⟩ (.int .i64 st')).setCell ⟨P, 3, none⟩ (.int .i64 ti')) := by
  obtain ⟨⟨hlt, c0, c1, c2, c3⟩, f0, f1, f2, f3⟩ := h
  have e0 : (w.setCell ⟨P, 0, none⟩ (.string s')).cell? ⟨P, 0, none⟩ = some (.string s') := World.cell?_setCell_same' _ _ _ (by rw [c0]; rfl)
  have e1 : ((w.setCell ⟨P, 0, none⟩ (.string s')).setCell ⟨P, 1, none⟩ (.int .i64 v')).cell? ⟨P, 1, none⟩ = some (.int .i64 v') := World.cell?_setCell_same' _ _ _ (by rw [World.cell?_setCell_other _ _ _ _ (by simp), c1]; rfl)
  have e2 : (((w.setCell ⟨P, 0, none⟩ (.string s')).setCell ⟨P, 1, none⟩ (.int .i64 v')).setCell ⟨P, 2, none⟩ (.int .i64 st')).cell? ⟨P, 2, none⟩ = some (.int .i64 st') := World.cell?_setCell_same' _ _ _ (by rw [World.cell?_setCell_other _ _ _ _ (by simp), World.cell?_setCell_other _ _ _ _ (by simp), c2]; rfl)
  refine ⟨⟨by simpa [World.setCell] using hlt, ?_, ?_, ?_, World.cell?_setCell_same' _ _ _ (by rw [World.cell?_setCell_other _ _ _ _ (by simp), World.cell?_setCell_other _ _ _ _ (by simp), World.cell?_setCell_other _ _ _ _ (by simp), c3]; rfl)⟩, ?_, ?_, ?_, ?_⟩
  · rw [World.cell?_setCell_other _ _ _ _ (by simp), World.cell?_setCell_other _ _ _ _ (by simp), World.cell?_setCell_other _ _ _ _ (by simp), e0]
  · rw [World.cell?_setCell_other _ _ _ _ (by simp), World.cell?_setCell_other _ _ _ _ (by simp), e1]
  · rw [World.cell?_setCell_other _ _ _ _ (by simp), e2]
  all_goals simpa using by assumption
theorem below_set4 {B : Nat} {a w : World} (h : Below B a w) {P : Nat} (hP : B ≤ P) (v0 v1 v2 v3 : Value) : Below B a ((((w.setCell ⟨P, 0, none⟩ v0).setCell ⟨P, 1, none⟩ v1).setCell ⟨P, 2, none⟩ v2).setCell ⟨P, 3, none⟩ v3) :=
  (((h.setCell (p := ⟨P, 0, none⟩) hP v0).setCell (p := ⟨P, 1, none⟩) hP v1).setCell (p := ⟨P, 2, none⟩) hP v2).setCell (p := ⟨P, 3, none⟩) hP v3

def nwk (l : List Gl) (t : Int) (k : Nat) : Gl := if k = 0 then l.getD 0 ⟨⟨#[]⟩, 0, 0, 0⟩ else nowT (l.take k) t
theorem nwk_step {l : List Gl} (h : chF none l = 0) {k : Nat} (hk : k < l.length) {t : Int} : (l[k].st ≤ t → nwk l t (k + 1) = l[k]) ∧ (¬ l[k].st ≤ t → nwk l t (k + 1) = nwk l t k) := by
  have e : nwk l t (k + 1) = nowT (l.take (k + 1)) t := by unfold nwk; rw [if_neg (by omega)]
  obtain ⟨a, b⟩ := now_take h hk (t := t) (by omega)
  rw [e]
  refine ⟨a, fun h1 => ?_⟩
  by_cases h0 : k = 0
  · subst h0
    rw [now_one hk]
    unfold nwk
    rw [if_pos rfl]
    simp [List.getD, hk]
  · rw [b h1 (by omega)]
    unfold nwk
    rw [if_neg h0]
theorem nwk_end (l : List Gl) (t : Int) (h : 0 < l.length) : nwk l t l.length = nowT l t := by unfold nwk; rw [if_neg (by omega), List.take_length]
theorem now_mem {l : List Gl} (h : 0 < l.length) (t : Int) : nowT l t ∈ l := by
  have hle := ixT_le (·.st) l t
  unfold nowT
  have : ixT (·.st) l t - 1 < l.length := by omega
  simp [List.getD, this]
set_option maxRecDepth 100000 in
set_option maxHeartbeats 8000000 in
theorem gvalue_any (A : Option Addr) (n c : Nat) (l : List Gl) (t : Int) (w : World) (hl : shG.In w A n l) (hn : n ≤ 9223372036854775807) (hs : l.length ≤ 256 → ∀ g ∈ l, g.s.size ≤ 1000) (t0 : -9223372036854775808 ≤ t) (t1 : t ≤ 9223372036854775807) (ht : Tab w) :
    Calls Tryz.prog 17 #[.slice A n c, .int .i64 t] w fun e w' => e = .returned (.tuple #[.string (valL l t), .int .i64 (errV l)]) ∧ Below w.heap.size w w' := by
  obtain ⟨rfl, _⟩ := id hl
  have HC := Lib.hid (fun w hl ht => gchain_any A l.length c l w hl hn hs ht)
  have hE : errV l = if chT l ≠ 0 then chT l else if l.length = 0 then 12 else 0 := rfl
  have hV : valL l t = if errV l ≠ 0 then ⟨#[]⟩ else (nowT l t).of t := rfl
  have hB := Below.refl w.heap.size w
  by_cases h1 : chT l = 0
  · rw [if_neg (by simpa using h1)] at hE
    rw [h1] at HC
    obtain ⟨hl256, hch⟩ := chT_le h1
    have HL := Lib.hid hl
    by_cases h0 : l.length = 0
    · rw [if_pos h0] at hE
      rw [hE, if_pos (by decide)] at hV
      obtain rfl := List.length_eq_zero_iff.1 h0
      simp only [List.length_nil] at HC HL
      rw [hV, hE]
      clear hV hE h1
      have HT := Lib.hid ht
      clear ht hl
      go_enter Tryz.func17, Tryz.ntmps17
      go_wp2_with (go_at_call 21; with_reducible refine (HC.out _ (HL.out.below hB) (HT.out.below hB)).mono ?_; rintro e wk ⟨rfl, hb⟩; replace hB := hB.trans (hb.mono hB.size); clear hb)
      go_ret2
      exact ⟨rfl, hB⟩
    · rw [if_neg h0] at hE
      rw [hE, if_neg (by decide)] at hV
      rw [hV, hE]
      clear hV hE
      have hp : 0 < l.length := by omega
      have HT := Lib.hid ht
      have Hch := Lib.hid hch
      have Hs := Lib.hid (hs hl256)
      have H1 := Lib.hid h1
      clear ht hch h1 hs hl
      go_enter Tryz.func17, Tryz.ntmps17
      go_wp2_with (go_at_call 21; with_reducible refine (HC.out _ (HL.out.below hB) (HT.out.below hB)).mono ?_; rintro e wk ⟨rfl, hb⟩; replace hB := hB.trans (hb.mono hB.size); clear hb; obtain ⟨b, o, rfl, hbl, hcell⟩ := gl_at (HL.out.below hB) hp; obtain ⟨p0, p1, p2, p3⟩ := hcell 0 hp; simp only [Nat.zero_mul, Nat.add_zero] at p0 p1 p2 p3)
      obtain ⟨W, hW⟩ : ∃ W, W = wk.alloc (.cells #[.string l[0].s, .int .i64 l[0].v, .int .i64 l[0].st, .int .i64 l[0].ti] 24) := ⟨_, rfl⟩
      have hG := GBf.fresh wk l[0].s l[0].v l[0].st l[0].ti
      rw [← hW] at hG ⊢
      have hB1 : Below wk.heap.size wk W := by rw [hW]; exact (Below.refl _ wk).alloc (Nat.le_refl _) _
      have e0 : nwk l t 0 = l[0] := by unfold nwk; rw [if_pos rfl]; simp [List.getD, hp]
      have HCell := Lib.hid hcell
      have HBk := Lib.hid hB
      clear hcell hW p0 p1 p2 p3 hB
      go_loopw [23] (fun iv wr => ∃ k : Nat, k ≤ l.length ∧ iv = .int .i64 k ∧ GBf (nwk l t k).s (nwk l t k).v (nwk l t k).st (nwk l t k).ti wk.heap.size wr ∧ Below wk.heap.size wk wr) (fun iv _ => l.length - (intOf iv).toNat)
      case atStart => exact ⟨0, Nat.zero_le _, rfl, by rw [e0]; exact hG, hB1⟩
      case round =>
        clear hG hB1 e0
        obtain ⟨k, hk, rfl, hG, hBr⟩ := hrel
        have HBr := Lib.hid hBr
        have hsz := hBr.size
        by_cases hlt : k < l.length
        · obtain ⟨p0, p1, p2, p3⟩ := four_keep hbl (HCell.out k hlt) hBr
          have hst := Lib.hid (nwk_step Hch.out hlt (t := t))
          have HG := Lib.hid hG
          obtain ⟨⟨hPl, n0, n1, n2, n3⟩, g0, g1, g2, g3⟩ := hG
          generalize l[k] = gk at *
          obtain ⟨N1, hN1⟩ : ∃ N1, nwk l t (k + 1) = N1 := ⟨_, rfl⟩
          rw [hN1] at hst
          have HN1 := Lib.hid hN1
          clear hN1
          generalize nwk l t k = N0 at *
          clear hBr
          by_cases h1 : gk.st ≤ t
          · have h2 := hst.out.1 h1
            subst h2
            clear hst
            obtain ⟨s, v, st, ti⟩ := N1
            go_wp2
            go_roundw
            case rel => exact ⟨k + 1, by omega, by go_num, by rw [HN1.out]; exact (HG.out.set s v st ti).below ((Below.refl _ _).alloc (Nat.le_refl _) _), (below_set4 HBr.out (Nat.le_refl _) _ _ _ _).alloc (by simpa [World.setCell] using hsz) _⟩
            case measure => simp [intOf]; omega
          · have h2 := hst.out.2 h1
            subst h2
            clear hst
            obtain ⟨s, v, st, ti⟩ := gk
            go_wp2
            go_roundw
            case rel => exact ⟨k + 1, by omega, by go_num, by rw [HN1.out]; exact HG.out.below ((Below.refl _ _).alloc (Nat.le_refl _) _), HBr.out.alloc hsz _⟩
            case measure => simp [intOf]; omega
        · obtain rfl : k = l.length := by omega
          rw [nwk_end l t hp] at hG
          have hm := now_mem hp t
          have hA := fun w ht => gat_any (nowT l t).s (nowT l t).v (nowT l t).st (nowT l t).ti t w (Hs.out _ hm) t0 t1 ht
          have he : (nowT l t).err = 0 := (chF_up Hch.out).1 _ hm
          rw [at_of he, show errG (nowT l t).s.data.toList (nowT l t).v (nowT l t).st (nowT l t).ti = 0 from he] at hA
          have HA := Lib.hid hA
          obtain ⟨⟨hPl, n0, n1, n2, n3⟩, -, -, -, -⟩ := hG
          obtain ⟨O, hO⟩ : ∃ O, (nowT l t).of t = O := ⟨_, rfl⟩
          rw [hO] at HA
          have HO := Lib.hid hO
          clear hO
          clear hA he hm
          generalize nowT l t = N at HA n0 n1 n2 n3
          have hB := Below.refl wr.heap.size wr
          have HT2 := Lib.hid ((HT.out.below HBk.out).below HBr.out)
          go_wp2_with (go_at_call 28; with_reducible refine (HA.out _ (HT2.out.below hB)).mono ?_; rintro e w3 ⟨rfl, hb⟩; replace hB := hB.trans (hb.mono hB.size); clear hb)
          go_ret2
          exact ⟨by rw [HO.out]; rfl, HBk.out.trans ((HBr.out.trans (hB.mono hsz)).mono HBk.out.size)⟩
  · have g1 : (chT l == 0) = false := by simpa using h1
    have g2 : (chT l != 0) = true := by simpa using h1
    rw [if_pos h1] at hE
    rw [hE, if_pos h1] at hV
    rw [hV, hE]
    generalize chT l = k at *
    have HT := Lib.hid ht
    have HL := Lib.hid hl
    clear hV hE ht hl h1
    go_enter Tryz.func17, Tryz.ntmps17
    go_wp2_with (go_at_call 21; with_reducible refine (HC.out _ (HL.out.below hB) (HT.out.below hB)).mono ?_; rintro e wk ⟨rfl, hb⟩; replace hB := hB.trans (hb.mono hB.size); clear hb)
    go_ret2
    exact ⟨rfl, hB⟩
end Go.Proofs.YtjnhdimllllgaaaGreatDoor

namespace Go.Proofs.YtjnhdimllllgaaaGreatDoor
open Go.RowKit

set_option maxRecDepth 100000 in
set_option maxHeartbeats 8000000 in
theorem r3chain_any (A : Option Addr) (n c : Nat) (l : List Gl) (w : World) (hl : shG.In w A n l) (hn : n ≤ 9223372036854775807) (hs : l.length ≤ 256 → ∀ g ∈ l, g.s.size ≤ 1000) :
    Calls Tryz.prog 22 #[.slice A n c] w fun e w' => e = .returned (.int .i64 (chT l)) ∧ Below w.heap.size w w' := by
  obtain ⟨rfl, _⟩ := id hl
  by_cases hbig : 256 < l.length
  · have e : chT l = 5 := if_pos hbig
    rw [e]
    clear e hs
    have hB := Below.refl w.heap.size w
    go_enter Tryz.func22, Tryz.ntmps22
    go_wp2
    go_ret
    exact ⟨rfl, hB⟩
  · have e : chT l = chF none l := if_neg hbig
    rw [e]
    clear e
    have hs := Lib.hid (hs (by omega))
    obtain ⟨E, hE⟩ : ∃ E, E = chF none l := ⟨_, rfl⟩
    rw [← hE]
    have HE := Lib.hid hE
    clear hE
    go_enter Tryz.func22, Tryz.ntmps22
    go_wp2
    go_loopw [3] (fun iv wr => ∃ k : Nat, k ≤ l.length ∧ iv = .int .i64 k ∧ ChA l k ∧ Below w.heap.size w wr) (fun iv _ => l.length - (intOf iv).toNat)
    case atStart => exact ⟨0, Nat.zero_le _, rfl, chA_zero l, Below.refl _ _⟩
    case round =>
      obtain ⟨k, hk, rfl, hc, hBr⟩ := hrel
      have HC := Lib.hid hc
      have HBr := Lib.hid hBr
      clear hc
      by_cases hlt : k < l.length
      · have hB := Below.refl wr.heap.size wr
        rcases k with _ | j
        · obtain ⟨b, o, rfl, hbl, hcell⟩ := gl_at (hl.below hBr) hlt
          obtain ⟨p0, p1, p2, p3⟩ := hcell 0 hlt
          simp only [Nat.zero_mul, Nat.add_zero] at p0 p1 p2 p3
          have hsz := hs.out _ (List.getElem_mem hlt)
          have HF := Lib.hid (chA_first HC.out hlt)
          have HBd := Lib.hid (fun h => chA_bad HC.out hlt h)
          have hch := Lib.hid (fun w => r3check_any l[0].s l[0].v l[0].st l[0].ti w hsz)
          have herr : errG l[0].s.data.toList l[0].v l[0].st l[0].ti = l[0].err := rfl
          rw [herr] at hch
          generalize l[0].err = er at *
          generalize l[0].s = S at *
          generalize l[0].v = V at *
          generalize l[0].st = T at *
          generalize l[0].ti = I at *
          clear hcell herr hBr
          by_cases he : er = 0
          · subst he
            have HN := Lib.hid (HF.out rfl)
            clear HF HBd
            go_wp2_with (go_at_call 25; with_reducible refine (hch.out _).mono ?_; rintro e wk ⟨rfl, hb⟩; replace hB := hB.trans (hb.mono hB.size); clear hb)
            go_roundw
            case rel => exact ⟨0 + 1, by omega, by go_num, HN.out, HBr.out.trans (hB.mono HBr.out.size)⟩
            case measure => simp [intOf]; omega
          · have hf := HBd.out he
            rw [← HE.out] at hf
            subst hf
            have g1 : (E == 0) = false := by simpa using he
            have g2 : (E != 0) = true := by simpa using he
            clear HF HBd
            go_wp2_with (go_at_call 25; with_reducible refine (hch.out _).mono ?_; rintro e wk ⟨rfl, hb⟩; replace hB := hB.trans (hb.mono hB.size); clear hb)
            go_ret
            exact ⟨rfl, HBr.out.trans (hB.mono HBr.out.size)⟩
        · obtain ⟨b, o, rfl, hbl, hq, hp⟩ := gl_two (hl.below hBr) hlt
          have hj : j < l.length := by omega
          have hsz := hs.out _ (List.getElem_mem hlt)
          have hszq := hs.out _ (List.getElem_mem hj)
          have heq : l[j].err = 0 := HC.out.2 j hj (by omega)
          have HN := Lib.hid (fun he => chA_next HC.out hlt he)
          have HBd := Lib.hid (fun h => chA_bad HC.out hlt h)
          have hch := Lib.hid (fun w => r3check_any l[j + 1].s l[j + 1].v l[j + 1].st l[j + 1].ti w hsz)
          have herr : errG l[j + 1].s.data.toList l[j + 1].v l[j + 1].st l[j + 1].ti = l[j + 1].err := rfl
          rw [herr] at hch
          have hbd := fun (h : l[j + 1].err = 0) => err_bd (g := l[j + 1]) hsz h
          have hat := fun (h0 : l[j + 1].err = 0) w => r3of_any l[j].s l[j].v l[j].st l[j].ti l[j + 1].st w hszq (by have := hbd h0; omega) (by have := hbd h0; omega) heq
          rw [show ofT l[j].s l[j].v l[j].st l[j].ti l[j + 1].st = l[j].of l[j + 1].st from rfl] at hat
          obtain ⟨r2, -, -, -, -, v20, v21, s20, s21, i20, i21⟩ := errG_zero hszq heq
          generalize l[j + 1].err = er at *
          generalize l[j + 1].s = S at *
          generalize l[j + 1].v = V at *
          generalize l[j + 1].st = T at *
          generalize l[j + 1].ti = I at *
          generalize l[j].of T = O at *
          generalize l[j].s = S2 at *
          generalize l[j].v = V2 at *
          generalize l[j].st = T2 at *
          generalize l[j].ti = I2 at *
          have HAt := Lib.hid hat
          have HBd2 := Lib.hid hbd
          have HK := Lib.hid (fun w' (h : Below wr.heap.size wr w') => And.intro (four_keep hbl hp h) (four_keep hbl hq h))
          obtain ⟨p0, p1, p2, p3⟩ := hp
          obtain ⟨q0, q1, q2, q3⟩ := hq
          clear herr hat heq hsz hszq hbd hBr
          by_cases he : er = 0
          · subst he
            have hn := HN.out rfl
            have HA := Lib.hid (fun w => HAt.out rfl w)
            obtain ⟨b0, b1, b2, b3⟩ := HBd2.out rfl
            have HN := Lib.hid hn
            clear HBd HAt HBd2 hn
            have w1 : IntKind.i64.wrap ((j : Int) + 1 - 1) = (j : Int) := by rw [Int.add_sub_cancel]; exact IntWalk.i64_in _ (by omega)
            have w2 : IntKind.i64.wrap (j : Int) = (j : Int) := IntWalk.i64_in _ (by omega)
            have w3 : IntKind.i64.wrap ((j : Int) + 1) = (j : Int) + 1 := IntWalk.i64_in _ (by omega)
            have i0 : (0 : Int) ≤ (j : Int) := by omega
            have i1 : (j : Int) < (l.length : Int) := by omega
            have i2 : (j : Int) + 1 < (l.length : Int) := by omega
            have i3 : (0 : Int) ≤ (j : Int) + 1 := by omega
            go_wp2_with (go_at_call 25; with_reducible refine (hch.out _).mono ?_; rintro e wk ⟨rfl, hb⟩; replace hB := hB.trans (hb.mono hB.size); clear hb; obtain ⟨⟨p0, p1, p2, p3⟩, q0, q1, q2, q3⟩ := HK.out _ hB)
            by_cases h1 : T < T2
            · have hf := HE.out.trans (HN.out.1 h1)
              subst hf
              go_quiet (fail)
              go_wp2
              go_ret
              exact ⟨rfl, HBr.out.trans ((below_drewN hB nq).mono HBr.out.size)⟩
            · have HN2 := Lib.hid (And.intro (HN.out.2.1 (by omega)) (HN.out.2.2 (by omega)))
              clear HN
              by_cases h2 : S = O
              · have HN3 := Lib.hid (HN2.out.2 h2)
                have g2 : (!S.toList == O.toList) = false := by rw [bytes_beq, decide_eq_true h2]; rfl
                clear HN2 h2
                go_quiet (fail)
                go_wp2_with fail
                replace hB := below_drewN (below_drewN hB nq) 1
                obtain ⟨⟨p0, p1, p2, p3⟩, q0, q1, q2, q3⟩ := HK.out _ hB
                go_region_held3 (fun w' => w'.cell? ⟨b, o + (j + 1) * 4, none⟩ = some (.string S) ∧ w'.cell? ⟨b, o + (j + 1) * 4 + 1, none⟩ = some (.int .i64 V) ∧ w'.cell? ⟨b, o + (j + 1) * 4 + 2, none⟩ = some (.int .i64 T) ∧ w'.cell? ⟨b, o + (j + 1) * 4 + 3, none⟩ = some (.int .i64 I) ∧ w'.cell? ⟨b, o + j * 4, none⟩ = some (.string S2) ∧ w'.cell? ⟨b, o + j * 4 + 1, none⟩ = some (.int .i64 V2) ∧ w'.cell? ⟨b, o + j * 4 + 2, none⟩ = some (.int .i64 T2) ∧ w'.cell? ⟨b, o + j * 4 + 3, none⟩ = some (.int .i64 I2)) (exact ⟨p0, p1, p2, p3, q0, q1, q2, q3⟩) ((go_at_call 60; refine (HA.out _).mono ?_; rintro e wk ⟨rfl, hb⟩; replace hB := hB.trans (hb.mono hB.size); clear hb; obtain ⟨⟨p0, p1, p2, p3⟩, q0, q1, q2, q3⟩ := HK.out _ hB))
                go_wp2
                go_roundw
                case rel => exact ⟨j + 1 + 1, by omega, by go_num, HN3.out, HBr.out.trans (hB.mono HBr.out.size)⟩
                case measure => simp [intOf]; omega
              · have hf := HE.out.trans (HN2.out.1 h2)
                subst hf
                have g2 : (!S.toList == O.toList) = true := by rw [bytes_beq, decide_eq_false h2]; rfl
                clear HN2 h2
                go_quiet (fail)
                go_wp2_with fail
                replace hB := below_drewN (below_drewN hB nq) 1
                obtain ⟨⟨p0, p1, p2, p3⟩, q0, q1, q2, q3⟩ := HK.out _ hB
                go_region_held3 (fun w' => w'.cell? ⟨b, o + (j + 1) * 4, none⟩ = some (.string S) ∧ w'.cell? ⟨b, o + (j + 1) * 4 + 1, none⟩ = some (.int .i64 V) ∧ w'.cell? ⟨b, o + (j + 1) * 4 + 2, none⟩ = some (.int .i64 T) ∧ w'.cell? ⟨b, o + (j + 1) * 4 + 3, none⟩ = some (.int .i64 I) ∧ w'.cell? ⟨b, o + j * 4, none⟩ = some (.string S2) ∧ w'.cell? ⟨b, o + j * 4 + 1, none⟩ = some (.int .i64 V2) ∧ w'.cell? ⟨b, o + j * 4 + 2, none⟩ = some (.int .i64 T2) ∧ w'.cell? ⟨b, o + j * 4 + 3, none⟩ = some (.int .i64 I2)) (exact ⟨p0, p1, p2, p3, q0, q1, q2, q3⟩) ((go_at_call 60; refine (HA.out _).mono ?_; rintro e wk ⟨rfl, hb⟩; replace hB := hB.trans (hb.mono hB.size); clear hb; obtain ⟨⟨p0, p1, p2, p3⟩, q0, q1, q2, q3⟩ := HK.out _ hB))
                go_wp2
                go_ret
                exact ⟨rfl, HBr.out.trans (hB.mono HBr.out.size)⟩
          · have hf := HBd.out he
            rw [← HE.out] at hf
            subst hf
            have g1 : (E == 0) = false := by simpa using he
            have g2 : (E != 0) = true := by simpa using he
            clear HN HBd HAt
            go_wp2_with (go_at_call 25; with_reducible refine (hch.out _).mono ?_; rintro e wk ⟨rfl, hb⟩; replace hB := hB.trans (hb.mono hB.size); clear hb; obtain ⟨⟨p0, p1, p2, p3⟩, q0, q1, q2, q3⟩ := HK.out _ hB)
            go_ret
            exact ⟨rfl, HBr.out.trans (hB.mono HBr.out.size)⟩
      · have hf := Lib.hid (HE.out.trans (chA_end HC.out hlt))
        obtain rfl : k = l.length := by omega
        have hf := hf.out
        subst hf
        go_wp2
        go_ret
        exact ⟨rfl, HBr.out⟩
end Go.Proofs.YtjnhdimllllgaaaGreatDoor

namespace Go.Proofs.YtjnhdimllllgaaaGreatDoor
open Go.RowKit

theorem infoKr : (Tryz.prog.info? 68).map (fun i => (i.zero, i.size, i.bytes)) = some (some (.agg #[.int .i64 0, .string ⟨#[]⟩]), 2, 24) := by kernel_rfl
theorem infoKg : (Tryz.prog.info? 70).map (fun i => (i.zero, i.size, i.bytes)) = some (some (.agg #[.int .i64 0, .string ⟨#[]⟩]), 2, 24) := by kernel_rfl
theorem kn_one (x : Int) (s : ByteArray) : ∀ u ∈ [Value.int .i64 x, .string s], u.oneCell' = true := by simp; exact ⟨rfl, rfl⟩
theorem putK_same {l : List Kn} {k : Kn} (h : l.getLast? = some k) : putK l k = l := if_pos h
theorem putK_new {l : List Kn} {k : Kn} (h : l.getLast? ≠ some k) : putK l k = l ++ [k] := if_neg h
theorem vsK_snoc (l : List Kn) (k : Kn) : shK.vs (l ++ [k]) = shK.vs l ++ [.int .i64 k.at_, .string k.s] := by rw [Sh.vs_append, Sh.vs_one1]; rfl
theorem last_iff {l : List Kn} {k : Kn} (h : 0 < l.length) : l.getLast? = some k ↔ l[l.length - 1] = k := by
  rw [List.getLast?_eq_getElem?, List.getElem?_eq_getElem (by omega)]
  simp
theorem kn_ext {a b : Kn} : a = b ↔ a.at_ = b.at_ ∧ a.s = b.s := by
  cases a; cases b
  simp
set_option maxRecDepth 100000 in
set_option maxHeartbeats 8000000 in
theorem r3put_any (base : Nat) (A : Option Addr) (n c : Nat) (l : List Kn) (a : Int) (s : ByteArray) (w : World) (hown : w.ownsRow base 68 2 (.slice A n c) n (shK.vs l)) (hn : n = l.length) (hmax : n ≤ 100000) (hbase : base ≤ w.heap.size) :
    Calls Tryz.prog 64 #[.slice A n c, .int .i64 a, .string s] w fun e w' => ∃ A' c', e = .returned (.slice A' (putK l ⟨a, s⟩).length c') ∧ w'.ownsRow base 68 2 (.slice A' (putK l ⟨a, s⟩).length c') (putK l ⟨a, s⟩).length (shK.vs (putK l ⟨a, s⟩)) ∧ Below base w w' := by
  subst hn
  have hin : shK.In w A l.length l := Sh.In.of_own hown rfl
  by_cases h0 : l.length = 0
  · obtain rfl := List.length_eq_zero_iff.1 h0
    have e : putK [] ⟨a, s⟩ = [⟨a, s⟩] := by simp [putK]
    rw [e]
    simp only [List.length_nil, List.length_cons, Nat.zero_add] at *
    clear hin e
    go_enter Tryz.func64, Tryz.ntmps64
    go_wp2_with (at_builtin; refine wpList_push rfl _ _ _ rfl base _ _ 2 24 Tryz.underlying43 infoKr rfl (by omega) _ 0 _ rfl hown [.int .i64 a, .string s] _ _ _ rfl (by first | rfl | simp) rfl (kn_one _ _) (by unfold maxLen; omega) (by omega) (by first | omega | (simp; omega) | simp) ?_; intro g cap w1 hown1 hg1)
    go_ret
    exact ⟨_, _, rfl, by simpa [Sh.vs, shK] using hown1, (below_push (Below.refl base w) hbase hown hg1)⟩
  · obtain ⟨b, o, rfl, hbl, hc⟩ := kn_at hin (by omega)
    obtain ⟨c0, c1⟩ := hc (l.length - 1) (by omega)
    have hiff := last_iff (k := ⟨a, s⟩) (l := l) (by omega)
    rw [kn_ext] at hiff
    generalize l[l.length - 1] = q at *
    obtain ⟨x, y⟩ := q
    have Hiff := Lib.hid hiff
    have Hin := Lib.hid hin
    clear hiff hc hin
    have w1 : IntKind.i64.wrap ((l.length : Int) - 1) = ((l.length - 1 : Nat) : Int) := by rw [IntWalk.i64_in _ (by omega)]; omega
    have w2 : ((l.length : Int) - 1).toNat = l.length - 1 := by omega
    have w3 : (0 : Int) ≤ ((l.length - 1 : Nat) : Int) := by omega
    have w4 : ((l.length - 1 : Nat) : Int) < (l.length : Int) := by omega
    have w5 : (0 : Int) < (l.length : Int) := by omega
    simp only at c0 c1
    by_cases h1 : x = a
    · by_cases h2 : y = s
      · subst h1 h2
        have e := putK_same (Hiff.out.2 ⟨rfl, rfl⟩)
        rw [e]
        clear e Hiff
        have g2 : (y.toList == y.toList) = true := by simp
        go_enter Tryz.func64, Tryz.ntmps64
        go_wp2
        go_ret
        exact ⟨_, _, rfl, hown, Below.refl _ _⟩
      · subst h1
        have e := putK_new (l := l) (k := ⟨x, s⟩) (fun h => h2 (Hiff.out.1 h).2)
        rw [e, vsK_snoc, List.length_append, List.length_cons, List.length_nil, Nat.zero_add]
        have g2 : (y.toList == s.toList) = false := by rw [bytes_beq, decide_eq_false h2]
        clear e Hiff
        go_enter Tryz.func64, Tryz.ntmps64
        go_wp2_with (at_builtin; refine wpList_push rfl _ _ _ rfl base _ _ 2 24 Tryz.underlying43 infoKr rfl (by omega) _ l.length _ rfl hown [.int .i64 x, .string s] _ _ _ rfl (by first | rfl | simp) rfl (kn_one _ _) (by unfold maxLen; omega) (by omega) (by first | omega | (simp; omega) | simp) ?_; intro g cap w1 hown1 hg1)
        go_ret
        exact ⟨_, _, rfl, hown1, below_push (Below.refl base w) hbase hown hg1⟩
    · have e := putK_new (l := l) (k := ⟨a, s⟩) (fun h => h1 (Hiff.out.1 h).1)
      rw [e, vsK_snoc, List.length_append, List.length_cons, List.length_nil, Nat.zero_add]
      have g2 : (x == a) = false := by simpa using h1
      clear e Hiff
      go_enter Tryz.func64, Tryz.ntmps64
      go_wp2_with (at_builtin; refine wpList_push rfl _ _ _ rfl base _ _ 2 24 Tryz.underlying43 infoKr rfl (by omega) _ l.length _ rfl hown [.int .i64 a, .string s] _ _ _ rfl (by first | rfl | simp) rfl (kn_one _ _) (by unfold maxLen; omega) (by omega) (by first | omega | (simp; omega) | simp) ?_; intro g cap w1 hown1 hg1)
      go_ret
      exact ⟨_, _, rfl, hown1, below_push (Below.refl base w) hbase hown hg1⟩
end Go.Proofs.YtjnhdimllllgaaaGreatDoor

namespace Go.Proofs.YtjnhdimllllgaaaGreatDoor
open Go.RowKit

theorem now_ref {l : List Gl} (h : chF none l = 0) {k : Nat} (hk : k < l.length) {t : Int} (h1 : 0 < k → l[k].st ≤ t) (h2 : ∀ h : k + 1 < l.length, t < l[k + 1].st) : nowT l t = l[k] := by
  by_cases hs : l[k].st ≤ t
  · have e : ixT (·.st) l t = k + 1 := ixT_is (by omega) (fun j hj h3 => Int.le_trans (st_up h (i := j) (j := k) (by omega) hk) hs) h2
    unfold nowT
    rw [e, Nat.add_sub_cancel]
    simp [List.getD, hk]
  · have h0 : k = 0 := by
      rcases Nat.eq_zero_or_pos k with h | h
      · exact h
      · exact absurd (h1 h) hs
    subst h0
    have e : ixT (·.st) l t = 0 := ixT_zero (fun _ => by omega)
    unfold nowT
    rw [e]
    simp [List.getD, hk]
set_option maxRecDepth 100000 in
set_option maxHeartbeats 8000000 in
theorem r3value_any (A : Option Addr) (n c : Nat) (l : List Gl) (t : Int) (w : World) (hl : shG.In w A n l) (hn : n ≤ 9223372036854775807) (hs : l.length ≤ 256 → ∀ g ∈ l, g.s.size ≤ 1000) (t0 : -9223372036854775808 ≤ t) (t1 : t ≤ 9223372036854775807) :
    Calls Tryz.prog 18 #[.slice A n c, .int .i64 t] w fun e w' => e = .returned (.tuple #[.string (valL l t), .int .i64 (errV l)]) ∧ Below w.heap.size w w' := by
  obtain ⟨rfl, _⟩ := id hl
  have HC := Lib.hid (fun w hl => r3chain_any A l.length c l w hl hn hs)
  have hE : errV l = if chT l ≠ 0 then chT l else if l.length = 0 then 12 else 0 := rfl
  have hV : valL l t = if errV l ≠ 0 then ⟨#[]⟩ else (nowT l t).of t := rfl
  have hB := Below.refl w.heap.size w
  by_cases h1 : chT l = 0
  · rw [if_neg (by simpa using h1)] at hE
    rw [h1] at HC
    obtain ⟨hl256, hch⟩ := chT_le h1
    have HL := Lib.hid hl
    by_cases h0 : l.length = 0
    · rw [if_pos h0] at hE
      rw [hE, if_pos (by decide)] at hV
      obtain rfl := List.length_eq_zero_iff.1 h0
      simp only [List.length_nil] at HC HL
      rw [hV, hE]
      clear hV hE h1 hl
      go_enter Tryz.func18, Tryz.ntmps18
      go_wp2_with (go_at_call 22; with_reducible refine (HC.out _ (HL.out.below hB)).mono ?_; rintro e wk ⟨rfl, hb⟩; replace hB := hB.trans (hb.mono hB.size); clear hb)
      go_ret2
      exact ⟨rfl, hB⟩
    · rw [if_neg h0] at hE
      rw [hE, if_neg (by decide)] at hV
      rw [hV, hE]
      clear hV hE
      have hp : 0 < l.length := by omega
      have Hch := Lib.hid hch
      have Hs := Lib.hid (hs hl256)
      clear hch h1 hs hl
      go_enter Tryz.func18, Tryz.ntmps18
      go_wp2_with (go_at_call 22; with_reducible refine (HC.out _ (HL.out.below hB)).mono ?_; rintro e wk ⟨rfl, hb⟩; replace hB := hB.trans (hb.mono hB.size); clear hb; obtain ⟨b, o, rfl, hbl, hcell⟩ := gl_at (HL.out.below hB) hp)
      have HCell := Lib.hid hcell
      clear hcell
      go_loop [7] (fun iv => ∃ k : Nat, k < l.length ∧ iv = .int .i64 k ∧ ∀ h : k < l.length, 0 < k → l[k].st ≤ t) (fun iv => l.length - (intOf iv).toNat)
      case atStart => exact ⟨0, hp, rfl, fun _ h => absurd h (by omega)⟩
      case round =>
        obtain ⟨k, hk, rfl, hst⟩ := hrel
        have Hst := Lib.hid (hst hk)
        clear hst
        by_cases hend : k + 1 < l.length
        · obtain ⟨q0, q1, q2, q3⟩ := HCell.out (k + 1) hend
          have HN := Lib.hid (fun (h : t < l[k + 1].st) => now_ref Hch.out hk Hst.out (fun _ => h))
          have HS := Lib.hid (show l[k + 1].st = l[k + 1].st from rfl)
          generalize hT : l[k + 1].st = T at q2 HN HS
          have HT := Lib.hid hT
          clear hT q0 q1 q3
          by_cases hle : T ≤ t
          · go_wp2
            go_round
            case rel => exact ⟨k + 1, hend, by go_num, fun _ _ => by rw [HT.out]; exact hle⟩
            case measure => simp [intOf]; omega
          · have hnow := HN.out (by omega)
            obtain ⟨p0, p1, p2, p3⟩ := HCell.out k hk
            have hm := List.getElem_mem hk
            have hA := fun w => r3of_any l[k].s l[k].v l[k].st l[k].ti t w (Hs.out _ hm) t0 t1 ((chF_up Hch.out).1 _ hm)
            rw [show ofT l[k].s l[k].v l[k].st l[k].ti t = l[k].of t from rfl] at hA
            obtain ⟨O, hO⟩ : ∃ O, l[k].of t = O := ⟨_, rfl⟩
            rw [hO] at hA
            rw [← hnow] at hO
            have HO := Lib.hid hO
            have HA := Lib.hid hA
            clear hO hA hnow hm HN
            have hB2 := Below.refl wk.heap.size wk
            go_wp2_with (go_at_call 60; with_reducible refine (HA.out _).mono ?_; rintro e w3 ⟨rfl, hb⟩; replace hB2 := hB2.trans (hb.mono hB2.size); clear hb)
            go_ret2
            exact ⟨by rw [HO.out]; rfl, hB.trans (hB2.mono hB.size)⟩
        · have hnow := now_ref Hch.out hk Hst.out (fun h => absurd h hend) (t := t)
          obtain ⟨p0, p1, p2, p3⟩ := HCell.out k hk
          have hm := List.getElem_mem hk
          have hA := fun w => r3of_any l[k].s l[k].v l[k].st l[k].ti t w (Hs.out _ hm) t0 t1 ((chF_up Hch.out).1 _ hm)
          rw [show ofT l[k].s l[k].v l[k].st l[k].ti t = l[k].of t from rfl] at hA
          obtain ⟨O, hO⟩ : ∃ O, l[k].of t = O := ⟨_, rfl⟩
          rw [hO] at hA
          rw [← hnow] at hO
          have HO := Lib.hid hO
          have HA := Lib.hid hA
          clear hO hA hnow hm
          have hB2 := Below.refl wk.heap.size wk
          go_wp2_with (go_at_call 60; with_reducible refine (HA.out _).mono ?_; rintro e w3 ⟨rfl, hb⟩; replace hB2 := hB2.trans (hb.mono hB2.size); clear hb)
          go_ret2
          exact ⟨by rw [HO.out]; rfl, hB.trans (hB2.mono hB.size)⟩
  · have g1 : (chT l == 0) = false := by simpa using h1
    have g2 : (chT l != 0) = true := by simpa using h1
    rw [if_pos h1] at hE
    rw [hE, if_pos h1] at hV
    rw [hV, hE]
    generalize chT l = k at *
    have HL := Lib.hid hl
    clear hV hE hl h1
    go_enter Tryz.func18, Tryz.ntmps18
    go_wp2_with (go_at_call 22; with_reducible refine (HC.out _ (HL.out.below hB)).mono ?_; rintro e wk ⟨rfl, hb⟩; replace hB := hB.trans (hb.mono hB.size); clear hb)
    go_ret2
    exact ⟨rfl, hB⟩
end Go.Proofs.YtjnhdimllllgaaaGreatDoor

namespace Go.Proofs.YtjnhdimllllgaaaGreatDoor
open Go.RowKit

theorem ends_last {l : List Gl} {k : Nat} (h : ¬ k + 1 < l.length) : endsK l k = true := by
  unfold endsK
  rw [List.getElem?_eq_none (i := k + 1) (by omega)]
  split
  · rename_i h1 h2; cases h2
  · rfl
theorem ends_mid {l : List Gl} {k : Nat} (h : k + 1 < l.length) : endsK l k = decide ((l[k]'(by omega)).st + (l[k]'(by omega)).ti ≤ l[k + 1].st) := by
  unfold endsK
  rw [List.getElem?_eq_getElem (show k < l.length by omega), List.getElem?_eq_getElem h]
theorem put_len2 (out : List Kn) (k : Kn) : (putK out k).length ≤ out.length + 1 := by
  unfold putK
  split <;> simp
theorem knK_len2 (l : List Gl) : ∀ k, (knK l k).length ≤ 2 * k
  | 0 => by simp [knK]
  | k + 1 => by
    have := knK_len2 l k
    rw [knK]
    split
    · unfold stepK
      split
      · rename_i g _ _
        have a := put_len2 (putK (knK l k) ⟨g.st, g.s⟩) ⟨g.st + g.ti, sR (g.v : Rat)⟩
        have b := put_len2 (knK l k) ⟨g.st, g.s⟩
        omega
      · rename_i g _ _
        have b := put_len2 (knK l k) ⟨g.st, g.s⟩
        omega
    · omega
theorem own_drewN {w : World} {base : Nat} {e : TypeId} {z : Nat} {v : Value} {n : Nat} {xs : List Value} (h : w.ownsRow base e z v n xs) (k : Nat) : (w.drewN k).ownsRow base e z v n xs := h
set_option maxRecDepth 100000 in
set_option maxHeartbeats 8000000 in
theorem r3knots_any (A : Option Addr) (n c : Nat) (l : List Gl) (w : World) (hl : shG.In w A n l) (hn : n ≤ 9223372036854775807) (hs : l.length ≤ 256 → ∀ g ∈ l, g.s.size ≤ 1000) :
    Calls Tryz.prog 20 #[.slice A n c] w fun e w' => ∃ r, e = .returned (.tuple #[r, .int .i64 (chT l)]) ∧ shK.Out 68 (knT l) w r w' := by
  obtain ⟨rfl, _⟩ := id hl
  have HC := Lib.hid (fun w hl => r3chain_any A l.length c l w hl hn hs)
  have hV : knT l = if chT l ≠ 0 then [] else knK l l.length := rfl
  have hB := Below.refl w.heap.size w
  by_cases h1 : chT l = 0
  · rw [if_neg (by simpa using h1)] at hV
    rw [hV]
    rw [h1] at HC ⊢
    obtain ⟨hl256, hch⟩ := chT_le h1
    have HL := Lib.hid hl
    have Hch := Lib.hid hch
    have Hs := Lib.hid (hs hl256)
    clear hch h1 hs hl hV
    go_enter Tryz.func20, Tryz.ntmps20
    go_wp2_with (go_at_call 22; with_reducible refine (HC.out _ (HL.out.below hB)).mono ?_; rintro e wk ⟨rfl, hb⟩; replace hB := hB.trans (hb.mono hB.size); clear hb)
    go_loopw [5, 6] (fun v iv wr => ∃ k : Nat, k ≤ l.length ∧ iv = .int .i64 k ∧ wr.ownsRow w.heap.size 68 2 v (knK l k).length (shK.vs (knK l k)) ∧ Below w.heap.size w wr) (fun _ iv _ => l.length - (intOf iv).toNat)
    case atStart => exact ⟨0, Nat.zero_le _, rfl, World.ownsRow_nil _ _ _ _, hB⟩
    case round =>
      obtain ⟨k, hk, rfl, hown, hBr⟩ := hrel
      have HBr := Lib.hid hBr
      obtain ⟨A0, cc0, rfl⟩ := own_form hown
      by_cases hlt : k < l.length
      · obtain ⟨b, o, rfl, hbl0, hcell⟩ := gl_at HL.out (by omega)
        have hbl : b < w.heap.size := hbl0
        have hfc := fun (w' : World) (h : Below w.heap.size w w') => four_keep hbl (hcell k hlt) h
        have hgc := fun (w' : World) (h : Below w.heap.size w w') (hk1 : k + 1 < l.length) => (bcell h).1 b (o + (k + 1) * 4 + 2) hbl |>.trans (hcell (k + 1) hk1).2.2.1
        have hm := List.getElem_mem hlt
        obtain ⟨b0, b1, b2, b3⟩ := err_bd (Hs.out _ hm) ((chF_up Hch.out).1 _ hm)
        obtain ⟨r, -, -, -, -, hv0, hv1, -⟩ := errG_zero (Hs.out _ hm) ((chF_up Hch.out).1 _ hm)
        have hlen := knK_len2 l k
        have HSt := Lib.hid (knK_succ hlt)
        have HEl := Lib.hid (fun h => ends_last (l := l) (k := k) h)
        have HEm := Lib.hid (show ∀ h : k + 1 < l.length, endsK l k = decide ((l[k]'hlt).st + (l[k]'hlt).ti ≤ l[k + 1].st) from fun h => ends_mid h)
        have HP1 := Lib.hid (fun w' h hb => r3put_any w.heap.size A0 (knK l k).length cc0 (knK l k) l[k].st l[k].s w' h rfl (by omega) hb)
        have hown' := own_drewN hown 1
        have hgap : ∀ h : k + 1 < l.length, ∀ w', Below w.heap.size w w' → w'.cell? ⟨b, o + (k + 1) * 4 + 2, none⟩ = some (.int .i64 l[k + 1].st) := fun h w' hb => hgc w' hb h
        clear hgc hcell hm
        generalize l[k] = gk at *
        obtain ⟨S, V, T, I⟩ := gk
        dsimp only at *
        generalize knK l k = K0 at *
        have HF := Lib.hid hfc
        have HGap := Lib.hid hgap
        have hWh := fun w => swhole_fit (x := V) (by omega) (by omega) w
        obtain ⟨p0, p1, p2, p3⟩ := hfc _ (below_drewN HBr.out 1)
        have hsz := HBr.out.size
        have w1 : IntKind.i64.wrap (T + I) = T + I := IntWalk.i64_in _ (by omega)
        clear hfc hgap hBr
        have HStep := Lib.hid (show ∀ e, stepK K0 ⟨S, V, T, I⟩ e = if e then putK (putK K0 ⟨T, S⟩) ⟨T + I, sR (V : Rat)⟩ else putK K0 ⟨T, S⟩ from fun _ => rfl)
        obtain ⟨K1, hK1⟩ : ∃ K1, putK K0 ⟨T, S⟩ = K1 := ⟨_, rfl⟩
        have hlen1 := put_len2 K0 ⟨T, S⟩
        rw [hK1] at HP1 HStep hlen1
        have HP2 := Lib.hid (fun A1 c1 w' h hb => r3put_any w.heap.size A1 K1.length c1 K1 (T + I) (sR (V : Rat)) w' h rfl (by omega) hb)
        obtain ⟨K2, hK2⟩ : ∃ K2, putK K1 ⟨T + I, sR (V : Rat)⟩ = K2 := ⟨_, rfl⟩
        rw [hK2] at HP2 HStep
        generalize sR (V : Rat) = Q at *
        have HWh := Lib.hid hWh
        clear hWh hK1 hK2
        have hl64 : (l.length : Int) ≤ 256 := by omega
        go_wp2_with fail
        go_region_held3 (fun w' => w'.cell? ⟨b, o + k * 4, none⟩ = some (.string S) ∧ w'.cell? ⟨b, o + k * 4 + 1, none⟩ = some (.int .i64 V) ∧ w'.cell? ⟨b, o + k * 4 + 2, none⟩ = some (.int .i64 T) ∧ w'.cell? ⟨b, o + k * 4 + 3, none⟩ = some (.int .i64 I)) (exact ⟨p0, p1, p2, p3⟩) ((go_at_call 64; refine (HP1.out _ hown' hsz).mono ?_; rintro e wp ⟨A1, c1, rfl, hown1, hb1⟩; obtain ⟨p0, p1, p2, p3⟩ := HF.out _ ((below_drewN HBr.out 1).trans hb1)))
        have hBw := (below_drewN HBr.out 1).trans hb1
        clear hown hown' HP1 hb1
        go_wp2_with fail
        go_quiet (fail)
        replace hBw := below_drewN hBw nq
        replace hown1 := own_drewN hown1 nq
        obtain ⟨p0, p1, p2, p3⟩ := HF.out _ hBw
        by_cases hend : k + 1 < l.length
        · have q2 := HGap.out hend _ hBw
          have hEm := HEm.out hend
          generalize l[k + 1].st = T2 at *
          by_cases hle : T + I ≤ T2
          · rw [decide_eq_true hle] at hEm
            rw [hEm] at HSt
            have HSt := Lib.hid (HSt.out.trans (HStep.out true))
            rw [if_pos rfl] at HSt
            clear HStep HEl HEm hEm
            go_wp2_with (first | (go_at_call 32; with_reducible refine (HWh.out _).mono ?_; rintro e wq ⟨rfl, hb⟩; replace hown1 := own_below hown1 hb; replace hBw := hBw.trans (hb.mono hBw.size); clear hb) | (go_at_call 64; refine (HP2.out _ _ _ hown1 hBw.size).mono ?_; rintro e wq2 ⟨A2, c2, rfl, hown2, hb⟩; replace hBw := hBw.trans hb))
            go_roundw
            case rel => exact ⟨k + 1, by omega, by go_num, by rw [HSt.out]; exact hown2, hBw⟩
            case measure => simp [intOf]; omega
          · rw [decide_eq_false hle] at hEm
            rw [hEm] at HSt
            have HSt := Lib.hid (HSt.out.trans (HStep.out false))
            rw [if_neg (by decide)] at HSt
            clear HStep HEl HEm hEm
            go_wp2
            go_roundw
            case rel => exact ⟨k + 1, by omega, by go_num, by rw [HSt.out]; exact hown1, hBw⟩
            case measure => simp [intOf]; omega
        · have hEm := HEl.out hend
          rw [hEm] at HSt
          have HSt := Lib.hid (HSt.out.trans (HStep.out true))
          rw [if_pos rfl] at HSt
          clear HStep HEl HEm hEm
          obtain hkl : k + 1 = l.length := by omega
          have hkl2 : ((k : Int) + 1 == (l.length : Int)) = true := by simp; omega
          go_wp2_with (first | (go_at_call 32; with_reducible refine (HWh.out _).mono ?_; rintro e wq ⟨rfl, hb⟩; replace hown1 := own_below hown1 hb; replace hBw := hBw.trans (hb.mono hBw.size); clear hb) | (go_at_call 64; refine (HP2.out _ _ _ hown1 hBw.size).mono ?_; rintro e wq2 ⟨A2, c2, rfl, hown2, hb⟩; replace hBw := hBw.trans hb))
          go_roundw
          case rel => exact ⟨k + 1, by omega, by go_num, by rw [HSt.out]; exact hown2, hBw⟩
          case measure => simp [intOf]; omega
      · obtain rfl : k = l.length := by omega
        go_wp2
        go_ret2
        exact ⟨_, rfl, A0, cc0, rfl, hown, hBr⟩
  · have g1 : (chT l == 0) = false := by simpa using h1
    have g2 : (chT l != 0) = true := by simpa using h1
    rw [if_pos h1] at hV
    rw [hV]
    generalize chT l = k at *
    have HL := Lib.hid hl
    clear hV hl h1
    go_enter Tryz.func20, Tryz.ntmps20
    go_wp2_with (go_at_call 22; with_reducible refine (HC.out _ (HL.out.below hB)).mono ?_; rintro e wk ⟨rfl, hb⟩; replace hB := hB.trans (hb.mono hB.size); clear hb)
    go_ret2
    exact ⟨_, rfl, Sh.Out.nil hB⟩
end Go.Proofs.YtjnhdimllllgaaaGreatDoor

namespace Go.Proofs.YtjnhdimllllgaaaGreatDoor
open Go.RowKit

set_option maxRecDepth 100000 in
set_option maxHeartbeats 8000000 in
theorem r3bends_any (A : Option Addr) (n c : Nat) (l : List Kn) (w : World) (hl : shK.In w A n l) (hn : n ≤ 9223372036854775807) (hs : l.length ≤ 512 → ∀ g ∈ l, g.s.size ≤ 1000) :
    Calls Tryz.prog 75 #[.slice A n c] w fun e w' => e = .returned (.int .i64 (bendT l)) ∧ Below w.heap.size w w' := by
  obtain ⟨rfl, _⟩ := id hl
  have hB := Below.refl w.heap.size w
  by_cases h0 : l.length = 0
  · have e : bendT l = 12 := if_pos h0
    rw [e]
    obtain rfl := List.length_eq_zero_iff.1 h0
    simp only [List.length_nil] at *
    clear e hs hl
    go_enter Tryz.func75, Tryz.ntmps75
    go_wp2
    go_ret
    exact ⟨rfl, hB⟩
  have g0 : ((l.length : Int) == 0) = false := by rw [beq_eq_false_iff_ne]; omega
  by_cases hbig : 512 < l.length
  · have e : bendT l = 5 := by unfold bendT; rw [if_neg h0, if_pos hbig]
    rw [e]
    clear e hs
    go_enter Tryz.func75, Tryz.ntmps75
    go_wp2
    go_ret
    exact ⟨rfl, hB⟩
  have e : bendT l = knF none l := by unfold bendT; rw [if_neg h0, if_neg hbig]
  rw [e]
  clear e
  have hs := Lib.hid (hs (by omega))
  obtain ⟨E, hE⟩ : ∃ E, E = knF none l := ⟨_, rfl⟩
  rw [← hE]
  have HE := Lib.hid hE
  clear hE hB
  go_enter Tryz.func75, Tryz.ntmps75
  go_wp2
  go_loopw [3] (fun iv wr => ∃ k : Nat, k ≤ l.length ∧ iv = .int .i64 k ∧ KnA l k ∧ Below w.heap.size w wr) (fun iv _ => l.length - (intOf iv).toNat)
  case atStart => exact ⟨0, Nat.zero_le _, rfl, knA_zero l, Below.refl _ _⟩
  case round =>
    obtain ⟨k, hk, rfl, hc, hBr⟩ := hrel
    have HC := Lib.hid hc
    have HBr := Lib.hid hBr
    clear hc
    by_cases hlt : k < l.length
    · have hsz := hs.out _ (List.getElem_mem hlt)
      have hlv := Lib.hid (fun w => r3level_any l[k].s w hsz)
      have HStep := Lib.hid (knA_step HC.out hlt)
      obtain ⟨b, o, rfl, hbl0, hcell⟩ := kn_at (hl.below hBr) (by omega)
      have hp := hcell k hlt
      have hNx : inT 20000000 l[k].at_ = true → errLv l[k].s.data.toList = 0 → (k = 0 → KnA l 1) ∧ (∀ j, ∀ h : k = j + 1, (l[k].at_ < (l[j]'(by omega)).at_ → knF none l = 9) ∧ (¬ l[k].at_ < (l[j]'(by omega)).at_ → KnA l (j + 1 + 1))) := by
        intro h1 h2
        refine ⟨fun h => by subst h; exact knA_first hlt h1 h2, fun j h => ?_⟩
        subst h
        exact knA_next HC.out hlt h1 h2
      have hq : ∀ j, ∀ h : k = j + 1, wr.cell? ⟨b, o + j * 2, none⟩ = some (.int .i64 (l[j]'(by omega)).at_) := fun j h => (hcell j (by omega)).1
      have HNx := Lib.hid hNx
      obtain ⟨a, ha⟩ : ∃ a, l[k].at_ = a := ⟨_, rfl⟩
      obtain ⟨S, hS⟩ : ∃ S, l[k].s = S := ⟨_, rfl⟩
      rw [ha] at hp HStep HNx
      rw [hS] at hp hlv HStep HNx
      have hi : inT 20000000 a = (decide (0 ≤ a) && decide (a ≤ 20000000)) := rfl
      obtain ⟨er, her⟩ : ∃ er, errLv S.data.toList = er := ⟨_, rfl⟩
      rw [her] at hlv HStep HNx
      have hB := Below.refl wr.heap.size wr
      have HK := Lib.hid (fun w' (h : Below wr.heap.size wr w') => two_keep hbl0 hp h)
      have HQ := Lib.hid hq
      have Hbl := Lib.hid hbl0
      obtain ⟨p0, p1⟩ := hp
      have HFin := Lib.hid (fun w' (h : Below wr.heap.size wr w') => HBr.out.trans (h.mono HBr.out.size))
      clear hBr hcell hNx ha hS her hsz hq hbl0
      by_cases a0 : a < 0
      · have e : inT 20000000 a = false := by rw [hi]; simp; omega
        have hf := HE.out.trans (HStep.out.1 e)
        subst hf
        clear e hi
        go_wp2
        go_ret
        exact ⟨rfl, HFin.out _ hB⟩
      by_cases a1 : 20000000 < a
      · have e : inT 20000000 a = false := by rw [hi]; simp; omega
        have hf := HE.out.trans (HStep.out.1 e)
        subst hf
        clear e hi
        go_wp2
        go_ret
        exact ⟨rfl, HFin.out _ hB⟩
      have e : inT 20000000 a = true := by rw [hi]; simp; omega
      by_cases he : er = 0
      · subst he
        have HN := Lib.hid (HNx.out e rfl)
        clear HNx HStep e hi
        rcases k with _ | j
        · have HN2 := Lib.hid (HN.out.1 rfl)
          clear HN
          simp only [Nat.zero_mul, Nat.add_zero] at p0 p1 HK
          have hd : decide ((0 : Int) < 0) = false := by decide
          go_wp2_with (first | (go_at_call 31; with_reducible refine (hlv.out _).mono ?_; rintro e wk ⟨rfl, hb⟩; replace hB := hB.trans (hb.mono hB.size); clear hb; obtain ⟨p0, p1⟩ := HK.out _ hB))
          go_quiet (fail)
          go_wp2
          go_roundw
          case rel => exact ⟨0 + 1, by omega, by go_num, HN2.out, HFin.out _ (below_drewN hB nq)⟩
          case measure => simp [intOf]; omega
        · have HN2 := Lib.hid (HN.out.2 j rfl)
          have q0 := HQ.out j rfl
          generalize (l[j]'(by omega)).at_ = a2 at *
          have HK2 := Lib.hid (fun w' (h : Below wr.heap.size wr w') => And.intro (HK.out w' h) ((bcell h).1 b (o + j * 2) Hbl.out |>.trans q0))
          have HK := HK2
          clear HN HK2 HQ
          have w1 : IntKind.i64.wrap ((j : Int) + 1 - 1) = (j : Int) := by rw [Int.add_sub_cancel]; exact IntWalk.i64_in _ (by omega)
          have w2 : IntKind.i64.wrap (j : Int) = (j : Int) := IntWalk.i64_in _ (by omega)
          have i0 : (0 : Int) ≤ (j : Int) := by omega
          have i1 : (j : Int) < (l.length : Int) := by omega
          have i2 : (0 : Int) ≤ (j : Int) + 1 := by omega
          have i3 : (j : Int) + 1 < (l.length : Int) := by omega
          have hd : decide ((0 : Int) < (j : Int) + 1) = true := by rw [decide_eq_true_eq]; omega
          go_wp2_with (first | (go_at_call 31; with_reducible refine (hlv.out _).mono ?_; rintro e wk ⟨rfl, hb⟩; replace hB := hB.trans (hb.mono hB.size); clear hb; obtain ⟨⟨p0, p1⟩, q0⟩ := HK.out _ hB))
          by_cases h1 : a < a2
          · have hf := HE.out.trans (HN2.out.1 h1)
            subst hf
            go_quiet (fail)
            go_wp2
            go_ret
            exact ⟨rfl, HFin.out _ (below_drewN hB nq)⟩
          · have HN3 := Lib.hid (HN2.out.2 (by omega))
            clear HN2
            go_quiet (fail)
            go_wp2
            go_roundw
            case rel => exact ⟨j + 1 + 1, by omega, by go_num, HN3.out, HFin.out _ (below_drewN hB nq)⟩
            case measure => simp [intOf]; omega
      · have hf := HE.out.trans (HStep.out.2 e he)
        subst hf
        have g1 : (E == 0) = false := by simpa using he
        have g2 : (E != 0) = true := by simpa using he
        clear HNx HStep e hi
        go_wp2_with (first | (go_at_call 31; with_reducible refine (hlv.out _).mono ?_; rintro e wk ⟨rfl, hb⟩; replace hB := hB.trans (hb.mono hB.size); clear hb; obtain ⟨p0, p1⟩ := HK.out _ hB))
        go_ret
        exact ⟨rfl, HFin.out _ hB⟩
    · have hf := HE.out.trans (knA_end HC.out hlt)
      obtain rfl : k = l.length := by omega
      subst hf
      go_wp2
      go_ret
      exact ⟨rfl, HBr.out⟩
set_option maxRecDepth 100000 in
set_option maxHeartbeats 8000000 in
theorem r3read_any (A : Option Addr) (n c : Nat) (l : List Kn) (t : Int) (w : World) (hl : shK.In w A n l) (hn : n ≤ 9223372036854775807) (hs : l.length ≤ 512 → ∀ g ∈ l, g.s.size ≤ 1000) (t0 : -9223372036854775808 ≤ t) (t1 : t ≤ 9223372036854775807) :
    Calls Tryz.prog 42 #[.slice A n c, .int .i64 t] w fun e w' => e = .returned (.tuple #[.string (readT l t), .int .i64 (bendT l)]) ∧ Below w.heap.size w w' := by
  obtain ⟨rfl, _⟩ := id hl
  have HC := Lib.hid (fun w hl => r3bends_any A l.length c l w hl hn hs)
  have hV : readT l t = if bendT l ≠ 0 then ⟨#[]⟩ else rdT l t := rfl
  have hB := Below.refl w.heap.size w
  have HL := Lib.hid hl
  by_cases h1 : bendT l = 0
  · rw [if_neg (by simpa using h1)] at hV
    obtain ⟨hp, hl5, hk⟩ := bendT_le h1
    rw [hV, h1]
    rw [h1] at HC
    have Hk := Lib.hid hk
    have Hs := Lib.hid (hs hl5)
    clear hV h1 hk hs hl
    go_enter Tryz.func42, Tryz.ntmps42
    go_wp2_with (go_at_call 75; with_reducible refine (HC.out _ (HL.out.below hB)).mono ?_; rintro e wk ⟨rfl, hb⟩; replace hB := hB.trans (hb.mono hB.size); clear hb; obtain ⟨b, o, rfl, hbl, hcell⟩ := kn_at (HL.out.below hB) hp)
    have HCell := Lib.hid hcell
    have HBk := Lib.hid hB
    clear hcell hB
    go_loop [7] (fun at_ => ∃ k : Nat, k ≤ l.length ∧ at_ = .int .i64 ((k : Int) - 1) ∧ ∀ j (h : j < l.length), j < k → l[j].at_ ≤ t) (fun at_ => l.length - (intOf at_ + 1).toNat)
    case atStart => exact ⟨0, Nat.zero_le _, rfl, fun _ _ h => absurd h (by omega)⟩
    case round =>
      obtain ⟨k, hk, rfl, hall⟩ := hrel
      have HAll := Lib.hid hall
      clear hall
      have w0 : IntKind.i64.wrap ((k : Int) - 1 + 1) = (k : Int) := by rw [Int.sub_add_cancel]; exact IntWalk.i64_in _ (by omega)
      have w00 : IntKind.i64.wrap (k : Int) = (k : Int) := IntWalk.i64_in _ (by omega)
      have i0 : (0 : Int) ≤ (k : Int) := by omega
      by_cases hgo : ∃ h : k < l.length, l[k].at_ ≤ t
      · obtain ⟨hlt, hle⟩ := hgo
        obtain ⟨q0, q1⟩ := HCell.out k hlt
        have HN := Lib.hid (show ∀ j (h : j < l.length), j < k + 1 → l[j].at_ ≤ t from fun j h h2 => by
          by_cases h3 : j < k
          · exact HAll.out j h h3
          · obtain rfl : j = k := by omega
            exact hle)
        generalize l[k].at_ = a at *
        have i1 : (k : Int) < (l.length : Int) := by omega
        clear HAll
        go_wp2
        go_round
        case rel => exact ⟨k + 1, by omega, by go_num, HN.out⟩
        case measure => simp [intOf]; omega
      · have hix : ixT (fun q : Kn => q.at_) l t = k := ixT_is hk HAll.out (fun h => Int.not_le.1 (fun h2 => hgo ⟨h, h2⟩))
        have hfin : ∀ w', Below wk.heap.size wk w' → Below w.heap.size w w' := fun w' h => HBk.out.trans (h.mono HBk.out.size)
        have HFin := Lib.hid hfin
        have hR : rdT l t = if k = 0 then (l.getD 0 noK).s else if k = l.length then (l.getD (k - 1) noK).s else rdT l t := by
          by_cases h0 : k = 0
          · rw [if_pos h0]; unfold rdT; simp only [hix]; rw [if_pos h0]
          · rw [if_neg h0]
            by_cases h2 : k = l.length
            · rw [if_pos h2]; unfold rdT; simp only [hix]; rw [if_neg h0, if_pos h2]
            · rw [if_neg h2]
        have hd : ∀ j (hj : j < l.length), l.getD j noK = l[j] := fun j hj => by simp [List.getD, hj]
        have hP := fun i (hi : k = i + 1) (hj : i + 1 < l.length) => rd_parts Hk.out Hs.out (hix.trans hi) hj
        obtain ⟨R, hRR⟩ : ∃ R, rdT l t = R := ⟨_, rfl⟩
        rw [hRR] at hR hP
        have HR := Lib.hid hRR
        have hq : ∀ h : k < l.length, wk.cell? ⟨b, o + k * 2, none⟩ = some (.int .i64 l[k].at_) ∧ ¬ l[k].at_ ≤ t := fun h => ⟨(HCell.out k h).1, fun h2 => hgo ⟨h, h2⟩⟩
        have HQ := Lib.hid hq
        clear hfin hRR hix HAll hgo hq
        by_cases h0 : k = 0
        · subst h0
          rw [if_pos rfl, hd 0 hp] at hR
          obtain ⟨p0, p1⟩ := HCell.out 0 hp
          have hq := (HQ.out hp).2
          simp only [Nat.zero_mul, Nat.add_zero] at p0 p1
          have HR2 := Lib.hid hR
          generalize l[0].at_ = a at *
          clear hR hd hP
          go_wp2
          go_ret2
          exact ⟨by rw [HR.out, HR2.out]; rfl, HBk.out⟩
        · obtain ⟨i, rfl⟩ : ∃ i, k = i + 1 := ⟨k - 1, by omega⟩
          rw [if_neg h0] at hR
          have ec : ((i + 1 : Nat) : Int) - 1 = (i : Int) := by omega
          rw [ec]
          rw [ec] at w0
          by_cases h2 : i + 1 = l.length
          · rw [if_pos h2, Nat.add_sub_cancel, hd i (by omega)] at hR
            obtain ⟨p0, p1⟩ := HCell.out i (by omega)
            have HR2 := Lib.hid hR
            have g1 : ((i : Int) + 1 == (l.length : Int)) = true := by rw [beq_iff_eq]; omega
            have g2 : ¬ ((i : Int) + 1 < (l.length : Int)) := by omega
            have hi1 : (i : Int) < (l.length : Int) := by omega
            clear hR hd hP h0 ec
            go_wp2
            go_ret2
            exact ⟨by rw [HR.out, HR2.out]; rfl, HBk.out⟩
          · have hj : i + 1 < l.length := by omega
            obtain ⟨r1, r2, e1, e2, z1, z2, a0, a1, b0, b1, eR⟩ := hP i rfl hj
            have hn8 : SzR 8 (Rat.divInt (t - (l[i]'(by omega)).at_) (l[i + 1].at_ - (l[i]'(by omega)).at_)) := SzR.red (by omega) (by omega) (by omega)
            have hO := fun w => sover_fit (x := t - (l[i]'(by omega)).at_) (y := l[i + 1].at_ - (l[i]'(by omega)).at_) (by omega) (by omega) (by omega) (by omega) (by omega) w
            have hM := fun w => smixed_fit z1 z2 hn8 w (by omega)
            rw [← e1, ← e2, ← eR] at hM
            have hp := HCell.out i (by omega)
            have hq := HCell.out (i + 1) hj
            generalize (l[i]'(by omega)).at_ = a at *
            generalize (l[i]'(by omega)).s = S1 at *
            generalize l[i + 1].at_ = a2 at *
            generalize l[i + 1].s = S2 at *
            generalize sR (Rat.divInt (t - a) (a2 - a)) = O at *
            have HO := Lib.hid hO
            have HM := Lib.hid hM
            have HK := Lib.hid (fun w' (h : Below wk.heap.size wk w') => And.intro (two_keep hbl hp h) (two_keep hbl hq h))
            have g1 : ((i : Int) + 1 == (l.length : Int)) = false := by rw [beq_eq_false_iff_ne]; omega
            have hi1 : (i : Int) < (l.length : Int) := by omega
            have hi2 : (i : Int) + 1 < (l.length : Int) := by omega
            have w2 : IntKind.i64.wrap ((i : Int) + 1) = (i : Int) + 1 := IntWalk.i64_in _ (by omega)
            have w3 : IntKind.i64.wrap (t - a) = t - a := IntWalk.i64_in _ (by omega)
            have w4 : IntKind.i64.wrap (a2 - a) = a2 - a := IntWalk.i64_in _ (by omega)
            have i3 : (0 : Int) ≤ (i : Int) + 1 := by omega
            have i4 : (0 : Int) ≤ (i : Int) := by omega
            have i5 : ¬ a2 ≤ t := by omega
            have hB := Below.refl wk.heap.size wk
            obtain ⟨p0, p1⟩ := hp
            obtain ⟨q0, q1⟩ := hq
            clear hR hd hP h0 ec hO hM eR e1 e2 z1 z2 hn8 HQ
            go_wp2_with fail
            replace hB := below_drewN hB 1
            obtain ⟨⟨p0, p1⟩, q0, q1⟩ := HK.out _ hB
            go_region_held3 (fun w' => w'.cell? ⟨b, o + i * 2, none⟩ = some (.int .i64 a) ∧ w'.cell? ⟨b, o + i * 2 + 1, none⟩ = some (.string S1) ∧ w'.cell? ⟨b, o + (i + 1) * 2, none⟩ = some (.int .i64 a2) ∧ w'.cell? ⟨b, o + (i + 1) * 2 + 1, none⟩ = some (.string S2)) (exact ⟨p0, p1, q0, q1⟩) (first | (go_at_call 51; refine (HO.out _).mono ?_; rintro e wk ⟨rfl, hb⟩; replace hB := hB.trans (hb.mono hB.size); clear hb; obtain ⟨⟨p0, p1⟩, q0, q1⟩ := HK.out _ hB) | (go_at_call 76; refine (HM.out _).mono ?_; rintro e wk ⟨rfl, hb⟩; replace hB := hB.trans (hb.mono hB.size); clear hb; obtain ⟨⟨p0, p1⟩, q0, q1⟩ := HK.out _ hB))
            all_goals
              go_wp2
              go_ret2
              exact ⟨by rw [HR.out]; rfl, HFin.out _ hB⟩
  · have g1 : (bendT l == 0) = false := by simpa using h1
    have g2 : (bendT l != 0) = true := by simpa using h1
    rw [if_pos h1] at hV
    rw [hV]
    generalize bendT l = k at *
    clear hV hl h1
    go_enter Tryz.func42, Tryz.ntmps42
    go_wp2_with (go_at_call 75; with_reducible refine (HC.out _ (HL.out.below hB)).mono ?_; rintro e wk ⟨rfl, hb⟩; replace hB := hB.trans (hb.mono hB.size); clear hb)
    go_ret2
    exact ⟨rfl, hB⟩
end Go.Proofs.YtjnhdimllllgaaaGreatDoor

namespace Go.Proofs.YtjnhdimllllgaaaGreatDoor
open Go.RowKit

theorem kn_ext2 {a b : Kn} : a = b ↔ a.at_ = b.at_ ∧ a.s = b.s := by
  cases a; cases b
  simp
set_option maxRecDepth 100000 in
set_option maxHeartbeats 8000000 in
theorem r3same_any (A B : Option Addr) (n m c d : Nat) (l k : List Kn) (w : World) (hl : shK.In w A n l) (hk : shK.In w B m k) (hn : n ≤ 9223372036854775807) (hm : m ≤ 9223372036854775807) :
    Calls Tryz.prog 23 #[.slice A n c, .slice B m d] w fun e w' => e = .returned (.bool (decide (l = k))) ∧ Below w.heap.size w w' := by
  obtain ⟨rfl, _⟩ := id hl
  obtain ⟨rfl, _⟩ := id hk
  have hB := Below.refl w.heap.size w
  by_cases hlen : l.length = k.length
  · obtain ⟨r, hr⟩ : ∃ r, r = decide (l = k) := ⟨_, rfl⟩
    rw [← hr]
    have HR := Lib.hid hr
    have HLen := Lib.hid hlen
    have hl2 : ((l.length : Int) == (k.length : Int)) = true := by rw [beq_iff_eq]; omega
    have HN := Lib.hid hn
    clear hr hB
    rw [hlen] at hn ⊢
    clear hlen hl2
    go_enter Tryz.func23, Tryz.ntmps23
    go_wp2
    go_loopw [5] (fun iv wr => ∃ j : Nat, j ≤ k.length ∧ iv = .int .i64 j ∧ (∀ i (h1 : i < l.length) (h2 : i < k.length), i < j → l[i] = k[i]) ∧ Below w.heap.size w wr) (fun iv _ => k.length - (intOf iv).toNat)
    case atStart => exact ⟨0, Nat.zero_le _, rfl, fun _ _ _ h => absurd h (by omega), Below.refl _ _⟩
    case round =>
      obtain ⟨j, hj, rfl, hall, hBr⟩ := hrel
      have HAll := Lib.hid hall
      have HBr := Lib.hid hBr
      clear hall
      by_cases hlt : j < k.length
      · have hlt2 : j < l.length := by have := HLen.out; omega
        obtain ⟨b, o, rfl, hbl, hc⟩ := kn_at (hl.below hBr) (by omega)
        obtain ⟨b', o', rfl, hbl', hc'⟩ := kn_at (hk.below hBr) (by omega)
        obtain ⟨p0, p1⟩ := hc j hlt2
        obtain ⟨q0, q1⟩ := hc' j hlt
        have HE := Lib.hid (kn_ext2 (a := l[j]) (b := k[j]))
        have hjl : (j : Int) < (l.length : Int) := by omega
        have hjk : (j : Int) < (k.length : Int) := by omega
        have hj0 : (0 : Int) ≤ (j : Int) := by omega
        have HF := Lib.hid (show l[j] ≠ k[j] → r = false from fun h => by
          rw [HR.out]
          refine decide_eq_false fun e => h ?_
          subst e
          rfl)
        have HNx := Lib.hid (show l[j] = k[j] → ∀ i (h1 : i < l.length) (h2 : i < k.length), i < j + 1 → l[i] = k[i] from fun e i h1 h2 h3 => by
          by_cases h4 : i < j
          · exact HAll.out i h1 h2 h4
          · obtain rfl : i = j := by omega
            exact e)
        generalize hx : l[j] = x at *
        generalize hy : k[j] = y at *
        obtain ⟨xa, xs⟩ := x
        obtain ⟨ya, ys⟩ := y
        dsimp only at *
        have hBw := Lib.hid (fun n => below_drewN HBr.out n)
        clear hc hc' hx hy hBr
        rw [HLen.out] at hjl
        by_cases h1 : xa = ya
        · by_cases h2 : xs = ys
          · subst h1 h2
            have HN3 := Lib.hid (HNx.out rfl)
            clear HNx HF HE
            go_wp2_with fail
            go_quiet (fail)
            go_wp2
            go_roundw
            case rel => exact ⟨j + 1, by omega, by go_num, HN3.out, hBw.out _⟩
            case measure => simp [intOf]; omega
          · have hf := HF.out (fun e => h2 (HE.out.1 e).2)
            subst h1
            have g2 : (xs.toList == ys.toList) = false := by rw [bytes_beq, decide_eq_false h2]
            clear HNx HF HE HR
            subst hf
            go_wp2_with fail
            go_quiet (fail)
            go_wp2
            go_ret
            exact ⟨rfl, hBw.out _⟩
        · have hf := HF.out (fun e => h1 (HE.out.1 e).1)
          have g2 : (xa == ya) = false := by simpa using h1
          clear HNx HF HE HR
          subst hf
          go_wp2_with fail
          go_quiet (fail)
          go_wp2
          go_ret
          exact ⟨rfl, hBw.out _⟩
      · have hf : r = true := by
          rw [HR.out]
          refine decide_eq_true (List.ext_getElem HLen.out fun i h1 h2 => HAll.out i h1 h2 (by omega))
        clear HR
        subst hf
        obtain rfl : j = k.length := by omega
        go_wp2
        go_ret
        exact ⟨rfl, HBr.out⟩
  · have e : decide (l = k) = false := decide_eq_false fun h => hlen (by rw [h])
    rw [e]
    have hl2 : ((l.length : Int) == (k.length : Int)) = false := by rw [beq_eq_false_iff_ne]; omega
    clear e
    go_enter Tryz.func23, Tryz.ntmps23
    go_wp2
    go_ret
    exact ⟨rfl, hB⟩

def fewG (l : List Gl) : Bool := !(decide (12 < l.length) && decide (l.length ≤ 256)) && (l.take 12).all fun g => decide (g.s.size ≤ 120)
set_option maxHeartbeats 2000000 in
theorem s2few_any (s : ByteArray) (w : World) : Calls Tryz.prog 40 #[.string s] w fun e w' => e = .returned (.bool (decide (s.size ≤ 120))) ∧ w = w' := by
  by_cases h : s.size ≤ 120
  · have h2 : decide ((s.size : Int) ≤ 120) = true := by rw [decide_eq_true_eq]; omega
    rw [decide_eq_true h]
    go_enter Tryz.func40, Tryz.ntmps40
    go_wp2
    go_ret
    exact ⟨ret_bool (by simp), rfl⟩
  · have h2 : decide ((s.size : Int) ≤ 120) = false := by rw [decide_eq_false_iff_not]; omega
    rw [decide_eq_false h]
    go_enter Tryz.func40, Tryz.ntmps40
    go_wp2
    go_ret
    exact ⟨ret_bool (by simp), rfl⟩
set_option maxRecDepth 100000 in
set_option maxHeartbeats 4000000 in
theorem r3few_any (A : Option Addr) (n c : Nat) (l : List Gl) (w : World) (hl : shG.In w A n l) (hn : n ≤ 9223372036854775807) :
    Calls Tryz.prog 16 #[.slice A n c] w fun e w' => e = .returned (.bool (fewG l)) ∧ Below w.heap.size w w' := by
  obtain ⟨rfl, _⟩ := id hl
  have hB := Below.refl w.heap.size w
  by_cases h1 : 12 < l.length ∧ l.length ≤ 256
  · have e : fewG l = false := by unfold fewG; simp [h1.1, h1.2]
    rw [e]
    obtain ⟨h1, h2⟩ := h1
    have g1 : decide ((12 : Int) < (l.length : Int)) = true := by rw [decide_eq_true_eq]; omega
    have g2 : decide ((l.length : Int) ≤ 256) = true := by rw [decide_eq_true_eq]; omega
    clear e
    go_enter Tryz.func16, Tryz.ntmps16
    go_wp2
    go_ret
    exact ⟨rfl, hB⟩
  · obtain ⟨r, hr⟩ : ∃ r, r = (l.take 12).all fun g => decide (g.s.size ≤ 120) := ⟨_, rfl⟩
    have e : fewG l = r := by
      unfold fewG
      rw [← hr, show (decide (12 < l.length) && decide (l.length ≤ 256)) = false by rw [Bool.and_eq_false_iff, decide_eq_false_iff_not, decide_eq_false_iff_not]; omega]
      simp
    rw [e]
    have HR := Lib.hid hr
    have g1 : decide ((12 : Int) < (l.length : Int)) = true → decide ((l.length : Int) ≤ 256) = false := by rw [decide_eq_true_eq, decide_eq_false_iff_not]; omega
    clear e hr
    have hgo : ∀ b1 : Bool, decide ((12 : Int) < (l.length : Int)) = b1 → True := fun _ _ => trivial
    by_cases g0 : (12 : Int) < (l.length : Int)
    all_goals
      first
        | have g2 := g1 (decide_eq_true g0)
          have g3 := decide_eq_true g0
        | have g3 := decide_eq_false g0
      clear g1 hgo
      go_enter Tryz.func16, Tryz.ntmps16
      go_wp2
      go_loop [3] (fun iv => ∃ k : Nat, k ≤ l.length ∧ k ≤ 12 ∧ iv = .int .i64 k ∧ (l.take k).all (fun g => decide (g.s.size ≤ 120)) = true) (fun iv => l.length - (intOf iv).toNat)
      case atStart => exact ⟨0, Nat.zero_le _, by omega, rfl, by simp⟩
      case round =>
        obtain ⟨k, hk, hk12, rfl, hall⟩ := hrel
        by_cases hlt : k < l.length ∧ k < 12
        · obtain ⟨hlt, hlt2⟩ := hlt
          obtain ⟨b, o, rfl, hbl, hc⟩ := gl_at hl (by omega)
          obtain ⟨p0, p1, p2, p3⟩ := hc k hlt
          obtain ⟨hf, htt⟩ := gall_take hlt hall
          have HFw := Lib.hid (fun w => s2few_any l[k].s w)
          have hfin : decide (l[k].s.size ≤ 120) = false → r = false := fun h => by
            rw [HR.out]
            refine Bool.eq_false_iff.2 fun h2 => ?_
            have := List.all_eq_true.1 h2 l[k] (List.mem_take_iff_getElem.2 ⟨k, by omega, rfl⟩)
            rw [h] at this; cases this
          have HT := Lib.hid htt
          have HFin := Lib.hid hfin
          generalize decide (l[k].s.size ≤ 120) = bb at *
          generalize l[k].s = S at *
          have k1 : decide ((k : Int) < (l.length : Int)) = true := by rw [decide_eq_true_eq]; omega
          have k2 : decide ((k : Int) < 12) = true := by rw [decide_eq_true_eq]; omega
          clear hc hf htt hfin hall
          cases bb with
          | false =>
            have hf := HFin.out rfl
            clear HR HFin
            subst hf
            go_wp2_with (go_at_call 40; with_reducible refine (HFw.out _).mono ?_; rintro e wk ⟨rfl, rfl⟩)
            go_ret
            exact ⟨rfl, hB⟩
          | true =>
            have HN := Lib.hid (HT.out rfl)
            clear HT HFin
            go_wp2_with (go_at_call 40; with_reducible refine (HFw.out _).mono ?_; rintro e wk ⟨rfl, rfl⟩)
            go_round
            case rel => exact ⟨k + 1, by omega, by omega, by go_num, HN.out⟩
            case measure => simp [intOf]; omega
        · have hf : r = true := by
            rw [HR.out]
            by_cases h12 : k = 12
            · subst h12; exact hall
            · rw [List.take_of_length_le (by omega)] at hall ⊢
              exact hall
          clear HR hall
          subst hf
          by_cases k0 : k < l.length
          · have k1 : decide ((k : Int) < (l.length : Int)) = true := by rw [decide_eq_true_eq]; omega
            have k2 : decide ((k : Int) < 12) = false := by rw [decide_eq_false_iff_not]; omega
            go_wp2
            go_ret
            exact ⟨rfl, hB⟩
          · have k1 : decide ((k : Int) < (l.length : Int)) = false := by rw [decide_eq_false_iff_not]; omega
            go_wp2
            go_ret
            exact ⟨rfl, hB⟩
set_option maxRecDepth 100000 in
set_option maxHeartbeats 4000000 in
theorem lknots_any (A : Option Addr) (n c : Nat) (l : List Kn) (w : World) (hl : shK.In w A n l) (hn : n ≤ 100000) :
    Calls Tryz.prog 24 #[.slice A n c] w fun e w' => ∃ r, e = .returned r ∧ shK.Out 68 l w r w' := by
  obtain ⟨rfl, _⟩ := id hl
  go_enter Tryz.func24, Tryz.ntmps24
  go_wp2
  go_loopw [3, 8] (fun v iv wr => ∃ k : Nat, k ≤ l.length ∧ iv = .int .i64 k ∧ wr.ownsRow w.heap.size 68 2 v k (shK.vs (l.take k)) ∧ Below w.heap.size w wr) (fun _ iv _ => l.length - (intOf iv).toNat)
  case atStart => exact ⟨0, Nat.zero_le _, rfl, World.ownsRow_nil _ _ _ _, Below.refl _ _⟩
  case round =>
    obtain ⟨k, hk, rfl, hown, hb⟩ := hrel
    have hsz := hb.size
    by_cases hlt : k < l.length
    · obtain ⟨b, o, rfl, hbl, hc⟩ := kn_at (hl.below hb) (by omega)
      obtain ⟨p0, p1⟩ := hc k hlt
      have ht := Lib.hid (shK.vs_take l k hlt)
      have HC := Lib.hid (show shK.cs l[k] = [.int .i64 l[k].at_, .string l[k].s] from rfl)
      rw [HC.out] at ht
      generalize l[k].at_ = x at *
      generalize l[k].s = y at *
      clear hc HC
      go_wp2_with (at_builtin; refine wpList_push rfl _ _ _ rfl w.heap.size _ _ 2 24 Tryz.underlying43 infoKr rfl (by omega) _ k (shK.vs (l.take k)) rfl (hown.alloc _) [.int .i64 x, .string y] _ _ _ rfl (by first | rfl | simp) rfl (kn_one _ _) (by unfold maxLen; omega) (by omega) (by first | omega | (simp; omega) | simp) ?_; intro g cap w1 hown1 hg1)
      go_roundw
      case rel => exact ⟨k + 1, by omega, by go_num, by rw [ht.out]; exact hown1, below_push (hb.alloc hsz _) (Nat.le_refl _) (hown.alloc _) hg1⟩
      case measure => simp [intOf]; omega
    · obtain rfl : k = l.length := by omega
      rw [List.take_length] at hown
      obtain ⟨A', c', rfl⟩ := own_form hown
      go_wp2
      go_ret
      exact ⟨_, rfl, A', c', rfl, hown, hb⟩
end Go.Proofs.YtjnhdimllllgaaaGreatDoor
