/- Lemmas and contracts of functions, joined for the claim: LawLev1, LawLev2, Bends, Law3g, Top2a, Top2b, Top2c, Top2d. -/
import Derived.Test.YtjnhdimllllgaaaGreatDoorGWalkA
import Derived.Test.YtjnhdimllllgaaaGreatDoorGWalkB
import Derived.Test.YtjnhdimllllgaaaGreatDoorGGlideB
import Derived.Test.YtjnhdimllllgaaaGreatDoorGLevB
import Derived.Test.YtjnhdimllllgaaaGreatDoorGLaw
import Derived.Lib.SliceRun
namespace Go.Proofs.YtjnhdimllllgaaaGreatDoor
open Go.RowKit

theorem infoGl : (Tryz.prog.info? 24).map (fun i => (i.zero, i.size, i.bytes)) = some (some (.agg #[.string ⟨#[]⟩, .int .i64 0, .int .i64 0, .int .i64 0]), 4, 40) := by kernel_rfl
theorem gl_one (s : ByteArray) (v st ti : Int) : ∀ u ∈ [Value.string s, .int .i64 v, .int .i64 st, .int .i64 ti], u.oneCell' = true := by simp; exact ⟨rfl, rfl, rfl, rfl⟩
theorem tn_at {w : World} {A : Option Addr} {n : Nat} {l : List Tn} (h : shT.In w A n l) (h0 : 0 < l.length) :
    ∃ b o, A = some ⟨b, o, none⟩ ∧ b < w.heap.size ∧ ∀ k (hk : k < l.length), w.cell? ⟨b, o + k * 3, none⟩ = some (.int .i64 l[k].at_) ∧ w.cell? ⟨b, o + k * 3 + 1, none⟩ = some (.int .i64 l[k].lv) ∧ w.cell? ⟨b, o + k * 3 + 2, none⟩ = some (.int .i64 l[k].ti) := by
  obtain ⟨b, o, e, hb, hc⟩ := h.at_ h0
  exact ⟨b, o, e, hb, fun k hk => ⟨hc k hk 0 _ (by decide) rfl, hc k hk 1 _ (by decide) rfl, hc k hk 2 _ (by decide) rfl⟩⟩
theorem ch_push : ∀ {C : List Gl} {p : Option Gl} {n : Gl}, C ≠ [] → chF p C = 0 → n.err = 0 → (∀ q, C.getLast? = some q → q.st ≤ n.st ∧ n.s = q.of n.st) → chF p (C ++ [n]) = 0
  | [], _, _, h0, _, _, _ => absurd rfl h0
  | g :: r, p, n, _, h, hn, hq => by
    rw [chF_cons] at h
    rw [List.cons_append, chF_cons]
    by_cases he : g.err ≠ 0
    · rw [if_pos he] at h; exact absurd h he
    · rw [if_neg he] at h ⊢
      have key : chF (some g) r = 0 → chF (some g) (r ++ [n]) = 0 := fun hr => by
        cases r with
        | nil =>
          obtain ⟨a, b⟩ := hq g rfl
          rw [List.nil_append, chF_cons, if_neg (fun hx => hx hn)]
          show (if n.st < g.st then (9 : Int) else if n.s ≠ g.of n.st then 3 else chF (some n) []) = 0
          rw [if_neg (by omega), if_neg (fun hx => hx b), chF_nil]
        | cons g2 r2 => exact ch_push (by simp) hr hn (fun q h2 => hq q (by rw [List.getLast?_cons_cons]; exact h2))
      cases p with
      | none => exact key h
      | some q =>
        dsimp only at h ⊢
        split at h
        · cases h
        · split at h
          · cases h
          · rename_i a b
            rw [if_neg a, if_neg b]
            exact key h
theorem next_ok {s : ByteArray} {v st ti : Int} (hfew : s.size ≤ 120) (herr : errG s.data.toList v st ti = 0) {x y z : Int} (hx : inT 10000000 x = true) (hy : inT 65535 y = true) (hz : inT 10000000 z = true) :
    ∃ S : ByteArray, S.size ≤ 1000 ∧ goT s v st ti x y z = .agg #[.string S, .int .i64 y, .int .i64 x, .int .i64 z] ∧ errGo s.data.toList v st ti x y z = 0 ∧ (⟨S, y, x, z⟩ : Gl).err = 0 ∧ S = (⟨s, v, st, ti⟩ : Gl).of x := by
  have hi1 : 0 ≤ x ∧ x ≤ 10000000 := by simpa [inT] using hx
  have hi2 : 0 ≤ z ∧ z ≤ 10000000 := by simpa [inT] using hz
  have hi3 : 0 ≤ y ∧ y ≤ 65535 := by simpa [inT] using hy
  have hE : errGo s.data.toList v st ti x y z = 0 := by
    unfold errGo
    rw [herr, if_neg (by decide), hx, hz, hy, if_pos (by decide)]
  have hs1 : s.size ≤ 1000 := by omega
  obtain ⟨r, hr, _, hv, hi, v0, v1, s0, s1, i0, i1⟩ := errG_zero hs1 herr
  have hzr : SzR 120 r := size_SzR hr hfew (by decide)
  have hzB : SzR (120 + (5 + 120 + 1 + 8) + 1) (lvR r v st ti x) := lv_sz hzr v0 v1 i0 i1
  have hsB : (sR (lvR r v st ti x)).size ≤ 1000 := Nat.le_trans hzB.len (by decide)
  have eB : ofT s v st ti x = sR (lvR r v st ti x) := by rw [hr, ofT_lv]
  refine ⟨sR (lvR r v st ti x), hsB, by unfold goT; rw [hE, if_neg (by decide), eB], hE, ?_, by rw [← eB]; rfl⟩
  show errG (sR (lvR r v st ti x)).data.toList y x z = 0
  unfold errG
  rw [errLv_of hzB (by decide) (lv_in i0 hi v0 v1), if_neg (by decide), if_pos (by simp [inT]; omega)]
theorem put_mem {out : List Kn} {k x : Kn} (h : x ∈ putK out k) : x ∈ out ∨ x = k := by
  unfold putK at h
  split at h
  · exact .inl h
  · simpa using h

theorem knK_sizes {l : List Gl} (hs : ∀ g ∈ l, g.s.size ≤ 1000) (hv : ∀ g ∈ l, 0 ≤ g.v ∧ g.v ≤ 65535) : ∀ (k : Nat) (x : Kn), x ∈ knK l k → x.s.size ≤ 1000
  | 0, x, hx => by simp [knK] at hx
  | k + 1, x, hx => by
    rw [knK] at hx
    split at hx
    · rename_i g hg
      have hm := List.mem_of_getElem? hg
      have hz : SzR 5 (g.v : Rat) := SzR.int (by have := hv g hm; omega) (by decide)
      have hV : (sR (g.v : Rat)).size ≤ 1000 := Nat.le_trans hz.len (by decide)
      unfold stepK at hx
      split at hx
      · rcases put_mem hx with h | rfl
        · rcases put_mem h with h | rfl
          · exact knK_sizes hs hv k x h
          · exact hs _ hm
        · exact hV
      · rcases put_mem hx with h | rfl
        · exact knK_sizes hs hv k x h
        · exact hs _ hm
    · exact knK_sizes hs hv k x hx
end Go.Proofs.YtjnhdimllllgaaaGreatDoor

namespace Go.Proofs.YtjnhdimllllgaaaGreatDoor
open Go.RowKit

theorem two_boxes (w : World) (x y z : Int) (s : ByteArray) (v st ti : Int) (W : World) (hW : (w.alloc (.cells #[.int .i64 x, .int .i64 y, .int .i64 z] 26)).alloc (.cells #[.string s, .int .i64 v, .int .i64 st, .int .i64 ti] 24) = W) :
    Below w.heap.size w W ∧ W.heap.size = w.heap.size + 1 + 1 ∧ ∀ w', Below W.heap.size W w' → (w'.cell? ⟨w.heap.size, 0, none⟩ = some (.int .i64 x) ∧ w'.cell? ⟨w.heap.size, 1, none⟩ = some (.int .i64 y) ∧ w'.cell? ⟨w.heap.size, 2, none⟩ = some (.int .i64 z)) ∧ GBx s v st ti (w.heap.size + 1) w' := by
  have hb1 : Below w.heap.size w (w.alloc (.cells #[.int .i64 x, .int .i64 y, .int .i64 z] 26)) := (Below.refl _ w).alloc (Nat.le_refl _) _
  have hG := GBx.fresh (w.alloc (.cells #[.int .i64 x, .int .i64 y, .int .i64 z] 26)) s v st ti
  rw [show (w.alloc (.cells #[.int .i64 x, .int .i64 y, .int .i64 z] 26)).heap.size = w.heap.size + 1 by simp, hW] at hG
  have hs : W.heap.size = w.heap.size + 1 + 1 := by rw [← hW]; simp
  refine ⟨by rw [← hW]; exact hb1.alloc hb1.size _, hs, fun w' h => ⟨three_keep0 (by omega) ⟨?_, ?_, ?_⟩ h, hG.below hG.lt h⟩⟩
  · rw [← hW, World.cell?_of_block (heap_alloc_old _ _ _ (by simp)), World.cell?_alloc_new]; rfl
  · rw [← hW, World.cell?_of_block (heap_alloc_old _ _ _ (by simp)), World.cell?_alloc_new]; rfl
  · rw [← hW, World.cell?_of_block (heap_alloc_old _ _ _ (by simp)), World.cell?_alloc_new]; rfl

def OkB (C : List Gl) : Prop := chF none C = 0 ∧ ∀ g ∈ C, g.s.size ≤ 120
set_option maxRecDepth 100000 in
set_option maxHeartbeats 8000000 in
theorem gbends_walk (w : World) (s : ByteArray) (v st ti : Int) (A : Option Addr) (n c : Nat) (l : List Tn) (t : Int) (hl : shT.In w A n l) (hn : n ≤ 9223372036854775807) (hg : ∀ x ∈ l, x.good) (t0 : -9223372036854775808 ≤ t) (t1 : t ≤ 9223372036854775807) (ht : Tab w) :
    Calls Tryz.prog 9 #[.agg #[.string s, .int .i64 v, .int .i64 st, .int .i64 ti], .slice A n c, .int .i64 t] w fun e w' => e = .returned (.bool true) ∧ Below w.heap.size w w' := by
  obtain ⟨rfl, _⟩ := id hl
  have HAw := Lib.hid (fun w ht => gawake_any w ht)
  have HF := Lib.hid (fun A c w hl => r3few_any A 1 c [⟨s, v, st, ti⟩] w hl (by decide))
  rw [fewG_one] at HF
  obtain ⟨W, hW⟩ : ∃ W, W = w.alloc (.cells #[.string s, .int .i64 v, .int .i64 st, .int .i64 ti] 24) := ⟨_, rfl⟩
  have hG := GBx.fresh w s v st ti
  have hB0 : Below w.heap.size w W := by rw [hW]; exact (Below.refl _ w).alloc (Nat.le_refl _) _
  rw [← hW] at hG
  have HP := Lib.hid hG.lt
  have HG := Lib.hid hG
  have HW := Lib.hid hW
  have HB0 := Lib.hid hB0
  have hB := Below.refl W.heap.size W
  obtain ⟨-, c0, c1, c2, c3⟩ := hG
  clear hW hB0
  have HT := Lib.hid (ht.below HB0.out)
  have HL := Lib.hid (hl.below HB0.out)
  have HsW := Lib.hid (show W.heap.size = w.heap.size + 1 by rw [HW.out]; simp)
  have Hg := Lib.hid hg
  clear ht hl hg
  by_cases hfew : s.size ≤ 120
  · rw [show decide ((⟨s, v, st, ti⟩ : Gl).s.size ≤ 120) = true from decide_eq_true hfew] at HF
    have hs1 : s.size ≤ 1000 := by omega
    have HC := Lib.hid (fun w => r3check_any s v st ti w hs1)
    by_cases herr : errG s.data.toList v st ti = 0
    · rw [herr] at HC
      by_cases h5 : l.length ≤ 5
      · have g5 : ¬ (5 : Int) < (l.length : Int) := by omega
        go_enter Tryz.func9, Tryz.ntmps9
        go_wp2_with fail
        rw [← HW.out]
        go_wp2_with (first | (go_at_call 16; refine (HF.out _ _ _ (inOne _ _ _ HsW.out.symm ⟨s, v, st, ti⟩)).mono ?_; rintro e wk ⟨rfl, hb⟩; replace hB := (hB.alloc hB.size _).trans (hb.mono (hB.alloc hB.size _).size); clear hb; obtain ⟨-, c0, c1, c2, c3⟩ := HG.out.below HP.out hB) | (go_at_call 25; with_reducible refine (HC.out _).mono ?_; rintro e wk ⟨rfl, hb⟩; replace hB := hB.trans (hb.mono hB.size); clear hb; obtain ⟨-, c0, c1, c2, c3⟩ := HG.out.below HP.out hB))
        have okB : OkB [(⟨s, v, st, ti⟩ : Gl)] := ⟨by rw [chF_cons, if_neg (fun hn => hn herr)]; exact chF_nil _, fun g hg => by rw [List.mem_singleton.1 hg]; exact hfew⟩
        go_loopw [7, 39] (fun vch iv wr => ∃ (k : Nat) (C : List Gl), k ≤ l.length ∧ iv = .int .i64 k ∧ C.length = k + 1 ∧ OkB C ∧ wr.ownsRow W.heap.size 24 4 vch (k + 1) (shG.vs C) ∧ Below W.heap.size W wr) (fun _ iv _ => l.length - (intOf iv).toNat)
        case atStart => exact ⟨0, [⟨s, v, st, ti⟩], Nat.zero_le _, rfl, rfl, okB, World.ownsRow_lit (base := W.heap.size) wk #[.string s, .int .i64 v, .int .i64 st, .int .i64 ti] 1 hB.size (by decide) rfl, hB.alloc hB.size _⟩
        case round =>
          obtain ⟨k, C, hk, rfl, hC, hok, hown, hBr⟩ := hrel
          have HBr := Lib.hid hBr
          obtain ⟨A0, cc0, rfl⟩ := own_form hown
          obtain ⟨b, o, rfl, hb0, hcell⟩ := gl_at (Sh.In.of_own hown hC.symm) (by omega)
          obtain ⟨p0, p1, p2, p3⟩ := hcell k (by omega)
          by_cases hlt : k < l.length
          · obtain ⟨bt, ot, rfl, hbt, hct⟩ := tn_at HL.out (by omega)
            obtain ⟨q0, q1, q2⟩ := three_keep hbt (hct k hlt) hBr
            have hgd := Hg.out _ (List.getElem_mem hlt)
            have hlk : k < C.length := by omega
            have hla : C.getLast? = some C[k] := by rw [List.getLast?_eq_getElem?, hC, Nat.add_sub_cancel, List.getElem?_eq_getElem hlk]
            have hek := (chF_up hok.1).1 _ (List.getElem_mem hlk)
            have hsk := hok.2 _ (List.getElem_mem hlk)
            clear hcell hct
            generalize l[k] = xk at *
            obtain ⟨X, Y, Z⟩ := xk
            generalize C[k] = gk at *
            obtain ⟨S, V, T, I⟩ := gk
            dsimp only at *
            have HT1 := Lib.hid (fun w => r3timeB X w)
            have HT2 := Lib.hid (fun w => r3timeB Z w)
            have HWl := Lib.hid (fun w => r3wholeB Y w)
            obtain ⟨Wb, hWb⟩ : ∃ Wb, (wr.alloc (.cells #[.int .i64 X, .int .i64 Y, .int .i64 Z] 26)).alloc (.cells #[.string S, .int .i64 V, .int .i64 T, .int .i64 I] 24) = Wb := ⟨_, rfl⟩
            obtain ⟨hbb, hsb, hkb⟩ := two_boxes wr X Y Z S V T I Wb hWb
            have HWb := Lib.hid hWb
            have HK := Lib.hid hkb
            have HBb := Lib.hid (HBr.out.trans (hbb.mono HBr.out.size))
            have HBw := Lib.hid (HB0.out.trans (HBb.out.mono HB0.out.size))
            have HT0 := HT
            replace HT := Lib.hid (HT.out.below HBb.out)
            have hown1 := own_below hown hbb
            clear hWb hkb hBr hown
            have hB := Below.refl Wb.heap.size Wb
            cases hx1 : inT 10000000 X with
            | false =>
              rw [hx1] at HT1
              go_wp2_with fail
              rw [HWb.out]
              go_wp2_with (first | (go_at_call 26; with_reducible refine (HT1.out _).mono ?_; rintro e wk ⟨rfl, hb⟩; replace hB := hB.trans (hb.mono hB.size); clear hb; obtain ⟨⟨q0, q1, q2⟩, ⟨-, p0, p1, p2, p3⟩⟩ := HK.out _ hB) | (go_at_call 27; with_reducible refine (HWl.out _).mono ?_; rintro e wk ⟨rfl, hb⟩; replace hB := hB.trans (hb.mono hB.size); clear hb; obtain ⟨⟨q0, q1, q2⟩, ⟨-, p0, p1, p2, p3⟩⟩ := HK.out _ hB) | (go_at_call 26; with_reducible refine (HT2.out _).mono ?_; rintro e wk ⟨rfl, hb⟩; replace hB := hB.trans (hb.mono hB.size); clear hb; obtain ⟨⟨q0, q1, q2⟩, ⟨-, p0, p1, p2, p3⟩⟩ := HK.out _ hB) | (go_at_call 13; with_reducible refine (HAw.out _ (HT.out.below hB)).mono ?_; rintro e wk ⟨rfl, hb⟩; replace hB := hB.trans (hb.mono hB.size); clear hb; obtain ⟨⟨q0, q1, q2⟩, ⟨-, p0, p1, p2, p3⟩⟩ := HK.out _ hB))
              go_ret
              exact ⟨rfl, HBw.out.trans (hB.mono HBw.out.size)⟩
            | true =>
              rw [hx1] at HT1
              cases hy1 : inT 65535 Y with
              | false =>
                rw [hy1] at HWl
                go_wp2_with fail
                rw [HWb.out]
                go_wp2_with (first | (go_at_call 26; with_reducible refine (HT1.out _).mono ?_; rintro e wk ⟨rfl, hb⟩; replace hB := hB.trans (hb.mono hB.size); clear hb; obtain ⟨⟨q0, q1, q2⟩, ⟨-, p0, p1, p2, p3⟩⟩ := HK.out _ hB) | (go_at_call 27; with_reducible refine (HWl.out _).mono ?_; rintro e wk ⟨rfl, hb⟩; replace hB := hB.trans (hb.mono hB.size); clear hb; obtain ⟨⟨q0, q1, q2⟩, ⟨-, p0, p1, p2, p3⟩⟩ := HK.out _ hB) | (go_at_call 26; with_reducible refine (HT2.out _).mono ?_; rintro e wk ⟨rfl, hb⟩; replace hB := hB.trans (hb.mono hB.size); clear hb; obtain ⟨⟨q0, q1, q2⟩, ⟨-, p0, p1, p2, p3⟩⟩ := HK.out _ hB) | (go_at_call 13; with_reducible refine (HAw.out _ (HT.out.below hB)).mono ?_; rintro e wk ⟨rfl, hb⟩; replace hB := hB.trans (hb.mono hB.size); clear hb; obtain ⟨⟨q0, q1, q2⟩, ⟨-, p0, p1, p2, p3⟩⟩ := HK.out _ hB))
                go_ret
                exact ⟨rfl, HBw.out.trans (hB.mono HBw.out.size)⟩
              | true =>
                rw [hy1] at HWl
                cases hz1 : inT 10000000 Z with
                | false =>
                  rw [hz1] at HT2
                  go_wp2_with fail
                  rw [HWb.out]
                  go_wp2_with (first | (go_at_call 26; with_reducible refine (HT1.out _).mono ?_; rintro e wk ⟨rfl, hb⟩; replace hB := hB.trans (hb.mono hB.size); clear hb; obtain ⟨⟨q0, q1, q2⟩, ⟨-, p0, p1, p2, p3⟩⟩ := HK.out _ hB) | (go_at_call 27; with_reducible refine (HWl.out _).mono ?_; rintro e wk ⟨rfl, hb⟩; replace hB := hB.trans (hb.mono hB.size); clear hb; obtain ⟨⟨q0, q1, q2⟩, ⟨-, p0, p1, p2, p3⟩⟩ := HK.out _ hB) | (go_at_call 26; with_reducible refine (HT2.out _).mono ?_; rintro e wk ⟨rfl, hb⟩; replace hB := hB.trans (hb.mono hB.size); clear hb; obtain ⟨⟨q0, q1, q2⟩, ⟨-, p0, p1, p2, p3⟩⟩ := HK.out _ hB) | (go_at_call 13; with_reducible refine (HAw.out _ (HT.out.below hB)).mono ?_; rintro e wk ⟨rfl, hb⟩; replace hB := hB.trans (hb.mono hB.size); clear hb; obtain ⟨⟨q0, q1, q2⟩, ⟨-, p0, p1, p2, p3⟩⟩ := HK.out _ hB))
                  go_ret
                  exact ⟨rfl, HBw.out.trans (hB.mono HBw.out.size)⟩
                | true =>
                  rw [hz1] at HT2
                  by_cases hst : X < T
                  · skip
                    go_wp2_with fail
                    rw [HWb.out]
                    go_wp2_with (first | (go_at_call 26; with_reducible refine (HT1.out _).mono ?_; rintro e wk ⟨rfl, hb⟩; replace hB := hB.trans (hb.mono hB.size); clear hb; obtain ⟨⟨q0, q1, q2⟩, ⟨-, p0, p1, p2, p3⟩⟩ := HK.out _ hB) | (go_at_call 27; with_reducible refine (HWl.out _).mono ?_; rintro e wk ⟨rfl, hb⟩; replace hB := hB.trans (hb.mono hB.size); clear hb; obtain ⟨⟨q0, q1, q2⟩, ⟨-, p0, p1, p2, p3⟩⟩ := HK.out _ hB) | (go_at_call 26; with_reducible refine (HT2.out _).mono ?_; rintro e wk ⟨rfl, hb⟩; replace hB := hB.trans (hb.mono hB.size); clear hb; obtain ⟨⟨q0, q1, q2⟩, ⟨-, p0, p1, p2, p3⟩⟩ := HK.out _ hB) | (go_at_call 13; with_reducible refine (HAw.out _ (HT.out.below hB)).mono ?_; rintro e wk ⟨rfl, hb⟩; replace hB := hB.trans (hb.mono hB.size); clear hb; obtain ⟨⟨q0, q1, q2⟩, ⟨-, p0, p1, p2, p3⟩⟩ := HK.out _ hB))
                    go_ret
                    exact ⟨rfl, HBw.out.trans (hB.mono HBw.out.size)⟩
                  · have g1 : ¬ X < T := hst
                    obtain ⟨SN, n1, n2, n3, n4, n5⟩ := next_ok hsk hek hx1 hy1 hz1
                    have hGo := fun w ht => ggo_any S V T I X Y Z w (Nat.le_trans hsk (by decide)) hgd.1.1 hgd.1.2 ht
                    rw [n2, n3] at hGo
                    have HGo := Lib.hid hGo
                    have HF2 := Lib.hid (fun A c w hl => r3few_any A 1 c [⟨SN, Y, X, Z⟩] w hl (by decide))
                    rw [fewG_one] at HF2
                    have HR := Lib.hid (show SN.size ≤ 120 → OkB (C ++ [⟨SN, Y, X, Z⟩]) from fun h => ⟨ch_push (by intro h0; rw [h0] at hC; simp at hC) hok.1 n4 (fun q hq => by rw [hla] at hq; cases hq; exact ⟨by show T ≤ X; omega, n5⟩), fun g hg => by
                      rcases List.mem_append.1 hg with h1 | h1
                      · exact hok.2 g h1
                      · rw [List.mem_singleton.1 h1]; exact h⟩)
                    have Hown := Lib.hid hown1
                    clear hGo n1 n2 n3 n4 n5 hla hek hsk hok hown1 hgd
                    by_cases hf2 : SN.size ≤ 120
                    · rw [show decide ((⟨SN, Y, X, Z⟩ : Gl).s.size ≤ 120) = true from decide_eq_true hf2] at HF2
                      have HR := Lib.hid (HR.out hf2)
                      clear hf2
                      go_wp2_with fail
                      rw [HWb.out]
                      go_wp2_with (first | (go_at_call 26; with_reducible refine (HT1.out _).mono ?_; rintro e wk ⟨rfl, hb⟩; replace hB := hB.trans (hb.mono hB.size); clear hb; obtain ⟨⟨q0, q1, q2⟩, ⟨-, p0, p1, p2, p3⟩⟩ := HK.out _ hB) | (go_at_call 27; with_reducible refine (HWl.out _).mono ?_; rintro e wk ⟨rfl, hb⟩; replace hB := hB.trans (hb.mono hB.size); clear hb; obtain ⟨⟨q0, q1, q2⟩, ⟨-, p0, p1, p2, p3⟩⟩ := HK.out _ hB) | (go_at_call 26; with_reducible refine (HT2.out _).mono ?_; rintro e wk ⟨rfl, hb⟩; replace hB := hB.trans (hb.mono hB.size); clear hb; obtain ⟨⟨q0, q1, q2⟩, ⟨-, p0, p1, p2, p3⟩⟩ := HK.out _ hB) | (go_at_call 13; with_reducible refine (HAw.out _ (HT.out.below hB)).mono ?_; rintro e wk ⟨rfl, hb⟩; replace hB := hB.trans (hb.mono hB.size); clear hb; obtain ⟨⟨q0, q1, q2⟩, ⟨-, p0, p1, p2, p3⟩⟩ := HK.out _ hB))
                      refine (HGo.out _ (HT.out.below hB)).mono ?_
                      rintro e wg ⟨rfl, hb⟩
                      replace hB := hB.trans (hb.mono hB.size)
                      obtain ⟨⟨q0, q1, q2⟩, ⟨-, p0, p1, p2, p3⟩⟩ := HK.out _ hB
                      clear hb
                      go_wp2_with fail
                      generalize hWh : World.alloc wg _ = Wh
                      have hh : GBx SN Y X Z wg.heap.size Wh := by rw [← hWh]; exact GBx.fresh wg _ _ _ _
                      have hBh : Below wg.heap.size wg Wh := by rw [← hWh]; exact (Below.refl _ wg).alloc (Nat.le_refl _) _
                      have HsH := Lib.hid (show Wh.heap.size = wg.heap.size + 1 by rw [← hWh]; simp)
                      replace hB := hB.trans (hBh.mono hB.size)
                      clear hWh hBh
                      refine (HF2.out _ _ _ (inOne _ _ _ HsH.out.symm ⟨SN, Y, X, Z⟩)).mono ?_
                      rintro e wf ⟨rfl, hb⟩
                      have hbf := ((Below.refl Wh.heap.size Wh).alloc (Nat.le_refl _) _).trans (hb.mono ((Below.refl Wh.heap.size Wh).alloc (Nat.le_refl _) _).size)
                      replace hB := hB.trans (hbf.mono hB.size)
                      obtain ⟨-, h0, h1, h2, h3⟩ := hh.below hh.lt hbf
                      clear hb hh hbf
                      have hown := own_below Hown.out hB
                      have hbase := HBb.out.trans (hB.mono HBb.out.size)
                      have hbs := hbase.size
                      go_wp2_with (at_builtin; refine wpList_push rfl _ _ _ rfl W.heap.size _ _ 4 40 Tryz.underlying34 infoGl rfl (by omega) _ (k + 1) _ rfl hown [.string SN, .int .i64 Y, .int .i64 X, .int .i64 Z] _ _ _ rfl (by first | rfl | simp) rfl (gl_one _ _ _ _) (by unfold maxLen; omega) (by omega) (by first | omega | (simp; omega) | simp) ?_; intro g cap w1 hown1 hg1)
                      go_roundw
                      case rel => exact ⟨k + 1, C ++ [⟨SN, Y, X, Z⟩], by omega, by go_num, by rw [List.length_append, hC]; rfl, HR.out, by rw [shG.vs_append, shG.vs_one1]; exact hown1, below_push hbase (Nat.le_refl _) hown hg1⟩
                      case measure => simp [intOf]; omega
                    · rw [show decide ((⟨SN, Y, X, Z⟩ : Gl).s.size ≤ 120) = false from decide_eq_false hf2] at HF2
                      clear hf2 HR
                      go_wp2_with fail
                      rw [HWb.out]
                      go_wp2_with (first | (go_at_call 26; with_reducible refine (HT1.out _).mono ?_; rintro e wk ⟨rfl, hb⟩; replace hB := hB.trans (hb.mono hB.size); clear hb; obtain ⟨⟨q0, q1, q2⟩, ⟨-, p0, p1, p2, p3⟩⟩ := HK.out _ hB) | (go_at_call 27; with_reducible refine (HWl.out _).mono ?_; rintro e wk ⟨rfl, hb⟩; replace hB := hB.trans (hb.mono hB.size); clear hb; obtain ⟨⟨q0, q1, q2⟩, ⟨-, p0, p1, p2, p3⟩⟩ := HK.out _ hB) | (go_at_call 26; with_reducible refine (HT2.out _).mono ?_; rintro e wk ⟨rfl, hb⟩; replace hB := hB.trans (hb.mono hB.size); clear hb; obtain ⟨⟨q0, q1, q2⟩, ⟨-, p0, p1, p2, p3⟩⟩ := HK.out _ hB) | (go_at_call 13; with_reducible refine (HAw.out _ (HT.out.below hB)).mono ?_; rintro e wk ⟨rfl, hb⟩; replace hB := hB.trans (hb.mono hB.size); clear hb; obtain ⟨⟨q0, q1, q2⟩, ⟨-, p0, p1, p2, p3⟩⟩ := HK.out _ hB))
                      refine (HGo.out _ (HT.out.below hB)).mono ?_
                      rintro e wg ⟨rfl, hb⟩
                      replace hB := hB.trans (hb.mono hB.size)
                      obtain ⟨⟨q0, q1, q2⟩, ⟨-, p0, p1, p2, p3⟩⟩ := HK.out _ hB
                      clear hb
                      go_wp2_with fail
                      generalize hWh : World.alloc wg _ = Wh
                      have hh : GBx SN Y X Z wg.heap.size Wh := by rw [← hWh]; exact GBx.fresh wg _ _ _ _
                      have hBh : Below wg.heap.size wg Wh := by rw [← hWh]; exact (Below.refl _ wg).alloc (Nat.le_refl _) _
                      have HsH := Lib.hid (show Wh.heap.size = wg.heap.size + 1 by rw [← hWh]; simp)
                      replace hB := hB.trans (hBh.mono hB.size)
                      clear hWh hBh
                      refine (HF2.out _ _ _ (inOne _ _ _ HsH.out.symm ⟨SN, Y, X, Z⟩)).mono ?_
                      rintro e wf ⟨rfl, hb⟩
                      have hbf := ((Below.refl Wh.heap.size Wh).alloc (Nat.le_refl _) _).trans (hb.mono ((Below.refl Wh.heap.size Wh).alloc (Nat.le_refl _) _).size)
                      replace hB := hB.trans (hbf.mono hB.size)
                      obtain ⟨-, h0, h1, h2, h3⟩ := hh.below hh.lt hbf
                      clear hb hh hbf
                      go_wp2_with fail
                      refine (HAw.out _ (HT.out.below hB)).mono ?_
                      rintro e w9 ⟨rfl, hb⟩
                      replace hB := hB.trans (hb.mono hB.size)
                      clear hb
                      go_wp2_with fail
                      go_ret
                      exact ⟨rfl, HBw.out.trans (hB.mono HBw.out.size)⟩
          · obtain rfl : k = l.length := by omega
            have hsz : ∀ g ∈ C, g.s.size ≤ 1000 := fun g hg => Nat.le_trans (hok.2 g hg) (by decide)
            have hc0 : chT C = 0 := by unfold chT; rw [if_neg (by omega)]; exact hok.1
            have he0 : errV C = 0 := by unfold errV; rw [hc0, if_neg (by decide), if_neg (by omega)]
            have hkt : knT C = knK C C.length := by unfold knT; rw [hc0, if_neg (by decide)]
            obtain ⟨K, hK, hb1, hrd, hap⟩ : ∃ K, knT C = K ∧ bendT K = 0 ∧ (∀ t, rdT K t = (nowT C t).of t) ∧ ∀ k (hk : k + 1 < K.length), (K[k]'(by omega)) ≠ K[k + 1] ∧ (K[k]'(by omega)).at_ ≤ K[k + 1].at_ := ⟨_, hkt, knots_read hok.1 (by omega) (by omega) hsz⟩
            have hks : ∀ x ∈ K, x.s.size ≤ 1000 := by
              rw [← hK, hkt]
              exact knK_sizes hsz (fun g hg => by
                obtain ⟨_, _, _, _, _, hv0, hv1, _⟩ := errG_zero (hsz g hg) ((chF_up hok.1).1 g hg)
                exact ⟨hv0, hv1⟩) _
            have hkl2 := knT_len C
            rw [hK] at hkl2
            have hval : readT K t = valL C t := by
              unfold readT valL
              rw [hb1, he0, if_neg (by decide), if_neg (by decide), hrd]
            have HI := Lib.hid (Sh.In.of_own hown hC.symm)
            have HVa := Lib.hid (fun w hl ht => gvalue_any (some ⟨b, o, none⟩) (l.length + 1) cc0 C t w hl (by omega) (fun _ => hsz) t0 t1 ht)
            have HKn := Lib.hid (fun w hl ht => gknots_any (some ⟨b, o, none⟩) (l.length + 1) cc0 C w hl (by omega) (fun _ => hsz) ht)
            have HRd := Lib.hid (fun A c w hl ht => gread_any A K.length c K t w hl (by omega) (fun _ => hks) t0 t1 ht)
            rw [he0] at HVa
            rw [hc0, hK] at HKn
            rw [hb1, hval] at HRd
            have Hap := Lib.hid hap
            generalize valL C t = X at *
            have HBw := Lib.hid (HB0.out.trans (HBr.out.mono HB0.out.size))
            replace HT := Lib.hid (HT.out.below HBr.out)
            have hB := Below.refl wr.heap.size wr
            clear hcell p0 p1 p2 p3 hok hsz hc0 he0 hb1 hrd hap hkt hK hks hval hown hBr
            go_wp2_with (go_at_call 17; with_reducible refine (HVa.out _ (HI.out.below hB) (HT.out.below hB)).mono ?_; rintro e wk ⟨rfl, hb⟩; replace hB := hB.trans (hb.mono hB.size); clear hb)
            refine (HKn.out _ (HI.out.below hB) (HT.out.below hB)).mono ?_
            rintro e w1 ⟨r1, rfl, A1, c1, rfl, ho1, hb⟩
            have hi1 : shK.In w1 A1 K.length K := Sh.In.of_own ho1 rfl
            replace hB := hB.trans (hb.mono hB.size)
            clear hb ho1
            go_wp2_with fail
            refine (HRd.out _ _ _ hi1 (HT.out.below hB)).mono ?_
            rintro e w2 ⟨rfl, hb⟩
            have HI1 := Lib.hid (hi1.below hb)
            replace hB := hB.trans (hb.mono hB.size)
            clear hb hi1
            have HB2 := Lib.hid hB
            clear hB
            go_wp2_with fail
            go_loopw [19] (fun iv wr => ∃ j : Nat, (j + 1 ≤ K.length ∨ j = 0) ∧ iv = .int .i64 ((j + 1 : Nat) : Int) ∧ Below w2.heap.size w2 wr) (fun iv _ => K.length - (intOf iv).toNat)
            case atStart => exact ⟨0, .inr rfl, rfl, Below.refl _ _⟩
            case round =>
              obtain ⟨j, hj, rfl, hBr⟩ := hrel
              have HBr := Lib.hid hBr
              have HB := Lib.hid (HB2.out.trans (hBr.mono HB2.out.size))
              by_cases hlt : j + 1 < K.length
              · obtain ⟨b, o, rfl, hbl, hc⟩ := kn_at (HI1.out.below hBr) (by omega)
                obtain ⟨p0, p1⟩ := hc j (by omega)
                obtain ⟨q0, q1⟩ := hc (j + 1) hlt
                obtain ⟨hne, hle⟩ := Hap.out j hlt
                have hE := kn_ext2 (a := K[j]'(by omega)) (b := K[j + 1])
                generalize (K[j]'(by omega)).at_ = a1 at *
                generalize (K[j]'(by omega)).s = S1 at *
                generalize K[j + 1].at_ = a2 at *
                generalize K[j + 1].s = S2 at *
                have hne2 : a1 = a2 → S1 ≠ S2 := fun h1 h2 => hne (hE.2 ⟨h1, h2⟩)
                have w0 : IntKind.i64.wrap ((j : Int) + 1 - 1) = (j : Int) := by rw [Int.add_sub_cancel]; exact IntWalk.i64_in _ (by omega)
                have w1 : IntKind.i64.wrap (j : Int) = (j : Int) := IntWalk.i64_in _ (by omega)
                have i0 : (0 : Int) ≤ (j : Int) := by omega
                have i1 : (j : Int) < (K.length : Int) := by omega
                have i2 : (j : Int) + 1 < (K.length : Int) := by omega
                have i3 : (0 : Int) ≤ (j : Int) + 1 := by omega
                have g1 : decide (a2 < a1) = false := by rw [decide_eq_false_iff_not]; omega
                clear hc hne hE hBr
                by_cases h1 : a1 = a2
                · have h2 := hne2 h1
                  have g2 : (S2.toList == S1.toList) = false := by rw [bytes_beq, decide_eq_false (fun e => h2 e.symm)]
                  subst h1
                  clear h2 hne2
                  go_wp2_with fail
                  go_quiet (fail)
                  go_wp2
                  go_roundw
                  case rel => exact ⟨j + 1, .inl (by omega), by go_num, below_drewN HBr.out _⟩
                  case measure => simp [intOf]; omega
                · have g2 : (a2 == a1) = false := by rw [beq_eq_false_iff_ne]; omega
                  clear hne2
                  go_wp2_with fail
                  go_quiet (fail)
                  go_wp2
                  go_roundw
                  case rel => exact ⟨j + 1, .inl (by omega), by go_num, below_drewN HBr.out _⟩
                  case measure => simp [intOf]; omega
              · have g1 : ¬ ((j : Int) + 1 < (K.length : Int)) := by omega
                replace HBw := Lib.hid (HBw.out.trans (HB.out.mono HBw.out.size))
                replace HT := Lib.hid (HT.out.below HB.out)
                have hB := Below.refl wr.heap.size wr
                clear hBr
                go_wp2_with (go_at_call 13; with_reducible refine (HAw.out _ (HT.out.below hB)).mono ?_; rintro e wk ⟨rfl, hb⟩; replace hB := hB.trans (hb.mono hB.size); clear hb)
                go_ret
                exact ⟨rfl, HBw.out.trans (hB.mono HBw.out.size)⟩
      · have g5 : (5 : Int) < (l.length : Int) := by omega
        go_enter Tryz.func9, Tryz.ntmps9
        go_wp2_with fail
        rw [← HW.out]
        go_wp2_with (first | (go_at_call 16; refine (HF.out _ _ _ (inOne _ _ _ HsW.out.symm ⟨s, v, st, ti⟩)).mono ?_; rintro e wk ⟨rfl, hb⟩; replace hB := (hB.alloc hB.size _).trans (hb.mono (hB.alloc hB.size _).size); clear hb; obtain ⟨-, c0, c1, c2, c3⟩ := HG.out.below HP.out hB) | (go_at_call 25; with_reducible refine (HC.out _).mono ?_; rintro e wk ⟨rfl, hb⟩; replace hB := hB.trans (hb.mono hB.size); clear hb; obtain ⟨-, c0, c1, c2, c3⟩ := HG.out.below HP.out hB) | (go_at_call 13; with_reducible refine (HAw.out _ (HT.out.below hB)).mono ?_; rintro e wk ⟨rfl, hb⟩; replace hB := hB.trans (hb.mono hB.size); clear hb; obtain ⟨-, c0, c1, c2, c3⟩ := HG.out.below HP.out hB))
        go_ret
        exact ⟨rfl, HB0.out.trans (hB.mono HB0.out.size)⟩
    · generalize errG s.data.toList v st ti = k at *
      have g1 : (k == 0) = false := by simpa using herr
      have g2 : (k != 0) = true := by simpa using herr
      go_enter Tryz.func9, Tryz.ntmps9
      go_wp2_with fail
      rw [← HW.out]
      go_wp2_with (first | (go_at_call 16; refine (HF.out _ _ _ (inOne _ _ _ HsW.out.symm ⟨s, v, st, ti⟩)).mono ?_; rintro e wk ⟨rfl, hb⟩; replace hB := (hB.alloc hB.size _).trans (hb.mono (hB.alloc hB.size _).size); clear hb; obtain ⟨-, c0, c1, c2, c3⟩ := HG.out.below HP.out hB) | (go_at_call 25; with_reducible refine (HC.out _).mono ?_; rintro e wk ⟨rfl, hb⟩; replace hB := hB.trans (hb.mono hB.size); clear hb; obtain ⟨-, c0, c1, c2, c3⟩ := HG.out.below HP.out hB) | (go_at_call 13; with_reducible refine (HAw.out _ (HT.out.below hB)).mono ?_; rintro e wk ⟨rfl, hb⟩; replace hB := hB.trans (hb.mono hB.size); clear hb; obtain ⟨-, c0, c1, c2, c3⟩ := HG.out.below HP.out hB))
      go_ret
      exact ⟨rfl, HB0.out.trans (hB.mono HB0.out.size)⟩
  · rw [show decide ((⟨s, v, st, ti⟩ : Gl).s.size ≤ 120) = false from decide_eq_false hfew] at HF
    go_enter Tryz.func9, Tryz.ntmps9
    go_wp2_with fail
    rw [← HW.out]
    go_wp2_with (first | (go_at_call 16; refine (HF.out _ _ _ (inOne _ _ _ HsW.out.symm ⟨s, v, st, ti⟩)).mono ?_; rintro e wk ⟨rfl, hb⟩; replace hB := (hB.alloc hB.size _).trans (hb.mono (hB.alloc hB.size _).size); clear hb; obtain ⟨-, c0, c1, c2, c3⟩ := HG.out.below HP.out hB) | (go_at_call 13; with_reducible refine (HAw.out _ (HT.out.below hB)).mono ?_; rintro e wk ⟨rfl, hb⟩; replace hB := hB.trans (hb.mono hB.size); clear hb; obtain ⟨-, c0, c1, c2, c3⟩ := HG.out.below HP.out hB))
    go_ret
    exact ⟨rfl, HB0.out.trans (hB.mono HB0.out.size)⟩
theorem glide_bends (w : World) (g : Gl) (_ : g.good) (A : Option Addr) (n c : Nat) (l : List Tn) (hl : shT.In w A n l) (hg : ∀ x ∈ l, x.good) (hn : n ≤ maxLen) (x : Int) (hx : (Lit.int .i64 x).wf = true) (hL : Laid w) :
    Calls Tryz.prog 9 #[.agg (shG.cs g).toArray, .slice A n c, .int .i64 x] w fun e w' => e = .returned (.bool true) ∧ Below w.heap.size w w' :=
  gbends_walk w g.s g.v g.st g.ti A n c l x hl (by unfold maxLen at hn; omega) hg (int_bd hx).1 (int_bd hx).2 hL.1
end Go.Proofs.YtjnhdimllllgaaaGreatDoor

namespace Go.Proofs.YtjnhdimllllgaaaGreatDoor
open Go.RowKit

theorem wf_i64 {n : Int} (h : (Lit.int .i64 n).wf = true) : -9223372036854775808 ≤ n ∧ n ≤ 9223372036854775807 := by simpa [Lit.wf, IntKind.min, IntKind.max, IntKind.bits, IntKind.signed] using h
theorem wf_u16 {n : Int} (h : (Lit.int .u16 n).wf = true) : 0 ≤ n ∧ n ≤ 65535 := by simpa [Lit.wf, IntKind.min, IntKind.max, IntKind.bits, IntKind.signed] using h
theorem wf_u8 {n : Int} (h : (Lit.int .u8 n).wf = true) : 0 ≤ n ∧ n ≤ 255 := by simpa [Lit.wf, IntKind.min, IntKind.max, IntKind.bits, IntKind.signed] using h
theorem vtext_any (v : Int) (w : World) (ht : Tab w) :
    Calls Tryz.prog 52 #[.int .i64 v] w fun e w' => e = .returned (.tuple #[.string ⟨(if 0 ≤ v ∧ v ≤ 65535 then namedT v else []).toArray⟩, .int .i64 (if 0 ≤ v ∧ v ≤ 65535 then 0 else 2)]) ∧ Below w.heap.size w w' := by
  by_cases h : 0 ≤ v ∧ v ≤ 65535
  · rw [if_pos h, if_pos h]; exact vtext_ok v w ht h.1 h.2
  · rw [if_neg h, if_neg h]; exact vtext_bad v w h
end Go.Proofs.YtjnhdimllllgaaaGreatDoor

namespace Go.Proofs.YtjnhdimllllgaaaGreatDoor
open Go.RowKit

theorem head_point {q r : BT} (h : ∀ c ∈ q, c ≠ 46) : headB 46 (q ++ 46 :: r) = q ∧ hasB 46 (q ++ 46 :: r) = true ∧ tailB 46 (q ++ 46 :: r) = r := by
  have h1 : ∀ c ∈ q, (c != 46) = true := fun c hc => by simpa using h c hc
  have h2 : hasB 46 (q ++ 46 :: r) = true := by unfold hasB; simp
  refine ⟨?_, h2, ?_⟩
  · unfold headB
    rw [List.takeWhile_append_of_pos h1]
    simp
  · unfold tailB
    rw [h2, if_pos rfl, List.dropWhile_append_of_pos h1]
    simp

theorem reads_cases {v : Int} (h0 : 0 ≤ v) (h1 : v ≤ 65535) :
    hasB 46 (namedT v) = false ∨ (hasB 46 (namedT v) = true ∧ (tailB 46 (namedT v)).length ≤ 1 ∧ ∃ x, pctT (headB 46 (namedT v)) = (x, 0) ∧ x ≠ v) ∨
    (hasB 46 (namedT v) = true ∧ 1 < (tailB 46 (namedT v)).length ∧ ∃ x, pctT (namedT v).dropLast = (x, 0) ∧ x ≠ v) := by
  by_cases hv : v = 65535
  · left; rw [hv]; rfl
  have hn : namedT v = textD (kOf v (unitD (decsOf v))) (decsOf v) := by unfold namedT; rw [if_neg hv]
  obtain ⟨k0, k1, _, _⟩ := kOf_spec (decsOf v) h0 h1
  obtain ⟨p0, p1, p2, p3⟩ := part_bd (decsOf v) k0 k1
  have hdg : ∀ c ∈ Lib.itoa (kOf v (unitD (decsOf v)) / partD (decsOf v)), c ≠ 46 := fun c hc => dg_ne (itoa_dgs p0 c hc) (by decide)
  by_cases hd : decsOf v = 0
  · left
    rw [hn]
    unfold textD hasB
    rw [if_pos hd, List.append_nil, List.any_eq_false]
    intro c hc
    simpa using hdg c hc
  have hs := pct_short h0 (by omega) (by omega)
  have hle := decs_le v
  have hpp : partD (decsOf v) = 10 ^ decsOf v := by
    obtain h | h | h : decsOf v = 1 ∨ decsOf v = 2 ∨ decsOf v = 3 := by omega
    all_goals rw [h]; rfl
  have hl := padD_len (d := decsOf v) p2 (by omega) (by rw [← hpp]; exact p3)
  obtain ⟨e1, e2, e3⟩ := head_point (r := padD (decsOf v) (kOf v (unitD (decsOf v)) % partD (decsOf v))) hdg
  rw [← textD_point hd, ← hn] at e1 e2 e3
  rw [e1, e2, e3, hl]
  by_cases h : decsOf v = 1
  · rw [if_pos h] at hs
    exact .inr (.inl ⟨rfl, by omega, hs⟩)
  · rw [if_neg h, ← hn] at hs
    exact .inr (.inr ⟨rfl, by omega, hs⟩)
theorem namedT_len {v : Int} (h0 : 0 ≤ v) (h1 : v ≤ 65535) : (namedT v).length ≤ 100 := by
  unfold namedT
  split
  · decide
  · obtain ⟨k0, k1, _, _⟩ := kOf_spec (decsOf v) h0 h1
    obtain ⟨p0, p1, p2, p3⟩ := part_bd (decsOf v) k0 k1
    have l1 := itoa_lt (k := 3) p0 (by omega) (by omega)
    have hle := decs_le v
    unfold textD
    split
    · simp; omega
    · rename_i hd
      have hpp : partD (decsOf v) = 10 ^ decsOf v := by
        obtain h | h | h : decsOf v = 1 ∨ decsOf v = 2 ∨ decsOf v = 3 := by omega
        all_goals rw [h]; rfl
      have hl := padD_len (d := decsOf v) p2 (by omega) (by rw [← hpp]; exact p3)
      rw [List.length_append, List.length_cons, hl]
      omega
theorem whole_eight {z : Int} (h0 : 0 ≤ z) (h1 : z ≤ 65535) (w : World) (ht : Tab w) (hg : Rng w) :
    Calls Tryz.prog 44 #[.string (sR (z : Rat))] w fun e w' => e = .returned (.tuple #[.int .i64 ((2 * z + 257) / 514), .int .i64 0]) ∧ Below w.heap.size w w' := by
  rw [sR_int]
  have := veight_any (sI z) w (Nat.le_trans (sI_len (k := 5) (by omega) (by omega)) (by omega)) ht hg
  rw [sI_list, eight_int h0 h1] at this
  exact this
theorem scale_le {a b : Int} (h0 : 0 ≤ a) (h1 : a ≤ 65535) (h2 : 0 ≤ b) (h3 : b ≤ 65535) : (2 * a * b + 65535) / 131070 ≤ a ∧ (2 * a * b + 65535) / 131070 ≤ b := by
  have e1 : a * b ≤ a * 65535 := Int.mul_le_mul_of_nonneg_left h3 h0
  have e2 : a * b ≤ 65535 * b := Int.mul_le_mul_of_nonneg_right h1 h2
  rw [Int.mul_assoc]
  generalize a * b = p at *
  omega
theorem scale_mono {a b c : Int} (h0 : 0 ≤ c) (h : a ≤ b) : (2 * a * c + 65535) / 131070 ≤ (2 * b * c + 65535) / 131070 := by
  have e1 : a * c ≤ b * c := Int.mul_le_mul_of_nonneg_right h h0
  rw [Int.mul_assoc, Int.mul_assoc]
  generalize a * c = p at *
  generalize b * c = q at *
  omega
end Go.Proofs.YtjnhdimllllgaaaGreatDoor

namespace Go.Proofs.YtjnhdimllllgaaaGreatDoor
open Go.RowKit

theorem dig_five (z : Int) (h0 : 10000 ≤ z) (h1 : z < 100000) : Lib.itoa z = [dg1 (z.natAbs / 10 / 10 / 10 / 10), dg1 (z.natAbs / 10 / 10 / 10 % 10), dg1 (z.natAbs / 10 / 10 % 10), dg1 (z.natAbs / 10 % 10), dg1 (z.natAbs % 10)] := by rw [itoa_pos' (by omega), dec_big (by omega), dec_big (by omega), dec_big (by omega), dec_big (by omega), dec_small (by omega)]; rfl
theorem tx12850 : sR ((12850 : Int) : Rat) = ⟨#[49, 50, 56, 53, 48]⟩ := (sR_of (by rw [rT_int, dig_five 12850 (by decide) (by decide)]; rfl)).symm
theorem ex_zero : errG (sR ((0 : Int) : Rat)).data.toList 0 0 0 = 0 := errG_int (by decide) (by decide) (by decide) (by decide) (by decide) (by decide) (by decide) (by decide)
theorem ex_half : errG (sR ((0 : Int) : Rat)).data.toList 25700 0 100 = 0 := errG_int (by decide) (by decide) (by decide) (by decide) (by decide) (by decide) (by decide) (by decide)
theorem ex_goes : errGo (sR ((0 : Int) : Rat)).data.toList 0 0 0 0 25700 100 = 0 ∧ goT (sR ((0 : Int) : Rat)) 0 0 0 0 25700 100 = .agg #[.string (sR ((0 : Int) : Rat)), .int .i64 25700, .int .i64 0, .int .i64 100] := by
  have e : errGo (sR ((0 : Int) : Rat)).data.toList 0 0 0 0 25700 100 = 0 := by
    unfold errGo
    rw [ex_zero, if_neg (by decide), if_pos (by decide)]
  refine ⟨e, ?_⟩
  unfold goT
  rw [e, if_neg (by decide), of_text (y := 0) (by decide +kernel)]
theorem zero_len : (sR ((0 : Int) : Rat)).size ≤ 1000 := by rw [tx0]; decide
set_option maxRecDepth 100000 in
set_option maxHeartbeats 4000000 in
theorem tryglides_any (w : World) (ht : Tab w) (hg : Rng w) : Calls Tryz.prog 43 #[] w fun e w' => e = .returned (.bool true) ∧ Below w.heap.size w w' := by
  have HT := Lib.hid ht
  have HRg := Lib.hid hg
  have HZ := Lib.hid (fun w ht => (show Calls Tryz.prog 38 #[] w fun e w' => e = .returned (.agg #[.string (sR ((0 : Int) : Rat)), .int .i64 0, .int .i64 0, .int .i64 0]) ∧ Below w.heap.size w w' from gzero_any w ht))
  have HGo := Lib.hid (fun w ht => (show Calls Tryz.prog 14 #[.agg #[.string (sR ((0 : Int) : Rat)), .int .i64 0, .int .i64 0, .int .i64 0], .int .i64 0, .int .i64 25700, .int .i64 100] w fun e w' => e = .returned (.tuple #[.agg #[.string (sR ((0 : Int) : Rat)), .int .i64 25700, .int .i64 0, .int .i64 100], .int .i64 0]) ∧ Below w.heap.size w w' by
    have := ggo_any (sR ((0 : Int) : Rat)) 0 0 0 0 25700 100 w zero_len (by decide) (by decide) ht
    rw [ex_goes.1, ex_goes.2] at this
    exact this))
  have HA := Lib.hid (fun w ht => (show Calls Tryz.prog 28 #[.agg #[.string (sR ((0 : Int) : Rat)), .int .i64 25700, .int .i64 0, .int .i64 100], .int .i64 50] w fun e w' => e = .returned (.tuple #[.string ⟨#[49, 50, 56, 53, 48]⟩, .int .i64 0]) ∧ Below w.heap.size w w' by
    have := gat_any (sR ((0 : Int) : Rat)) 25700 0 100 50 w zero_len (by decide) (by decide) ht
    rw [ex_half, at_text (y := 12850) ex_half (by decide +kernel), tx12850] at this
    exact this))
  have HE := Lib.hid (fun w ht hg => (show Calls Tryz.prog 44 #[.string ⟨#[49, 50, 56, 53, 48]⟩] w fun e w' => e = .returned (.tuple #[.int .i64 50, .int .i64 0]) ∧ Below w.heap.size w w' by
    have := whole_eight (z := 12850) (by decide) (by decide) w ht hg
    rw [tx12850] at this
    exact this))
  generalize sR ((0 : Int) : Rat) = S at *
  have hB := Below.refl w.heap.size w
  clear ht hg
  go_enter Tryz.func43, Tryz.ntmps43
  go_wp2_with (first | (go_at_call 38; with_reducible refine (HZ.out _ (HT.out.below hB)).mono ?_; rintro e wk ⟨rfl, hb⟩; replace hB := hB.trans (hb.mono hB.size); clear hb) | (go_at_call 14; with_reducible refine (HGo.out _ (HT.out.below hB)).mono ?_; rintro e wk ⟨rfl, hb⟩; replace hB := hB.trans (hb.mono hB.size); clear hb) | (go_at_call 28; with_reducible refine (HA.out _ (HT.out.below (hB.alloc hB.size _))).mono ?_; rintro e wk ⟨rfl, hb⟩; replace hB := (hB.alloc hB.size _).trans (hb.mono (hB.alloc hB.size _).size); clear hb) | (go_at_call 44; with_reducible refine (HE.out _ (HT.out.below hB) (HRg.out.below hB)).mono ?_; rintro e wk ⟨rfl, hb⟩; replace hB := hB.trans (hb.mono hB.size); clear hb))
  go_ret
  exact ⟨rfl, hB⟩
theorem trynear_fit {k m : Nat} {a b : Rat} (ha : SzR k a) (hb : SzR m b) (hk : k ≤ 7000) (hm : m ≤ 7000) (h1 : a ≤ b) (h2 : -b ≤ a) (w : World) :
    Calls Tryz.prog 47 #[.string (sR a), .string (sR b)] w fun e w' => e = .returned (.bool true) ∧ Below w.heap.size w w' := by
  have hB := Below.refl w.heap.size w
  have HO1 := Lib.hid (fun w => sorder_fit ha hb w hk hm)
  have HTn := Lib.hid (fun w => sturned_fit hb w (by omega))
  have HO2 := Lib.hid (fun w => sorder_fit ha hb.neg w hk hm)
  have o1 := ord_le h1
  have o2 := ord_ge h2
  generalize ordR a b = x at *
  generalize ordR a (-b) = y at *
  generalize sR a = A at *
  generalize sR b = B at *
  generalize sR (-b) = C at *
  clear ha hb hk hm h1 h2
  go_enter Tryz.func47, Tryz.ntmps47
  go_wp2_with (first | (go_at_call 33; with_reducible refine (HO1.out _).mono ?_; rintro e wk ⟨rfl, hb⟩; replace hB := hB.trans (hb.mono hB.size); clear hb) | (go_at_call 79; with_reducible refine (HTn.out _).mono ?_; rintro e wk ⟨rfl, hb⟩; replace hB := hB.trans (hb.mono hB.size); clear hb) | (go_at_call 33; with_reducible refine (HO2.out _).mono ?_; rintro e wk ⟨rfl, hb⟩; replace hB := hB.trans (hb.mono hB.size); clear hb))
  go_ret
  exact ⟨rfl, hB⟩

def halvesR : Rat := mkRat 257 2
theorem halves_bytes : (⟨#[50, 53, 55, 47, 50]⟩ : ByteArray) = sR halvesR := sR_of (by
  show [50, 53, 55, 47, 50] = rT halvesR
  have h1 : halvesR.den = 2 := by decide +kernel
  have h2 : halvesR.num = 257 := by decide +kernel
  unfold rT
  rw [h1, h2, if_neg (by decide), dig_three 257 (by decide) (by decide), dec_small (by decide)]
  rfl)
theorem halves_sz : SzR 3 halvesR := by
  have h1 : halvesR.den = 2 := by decide +kernel
  have h2 : halvesR.num = 257 := by decide +kernel
  unfold SzR
  rw [h1, h2]
  decide
theorem halves_eq : halvesR = 257 * halfR := by decide +kernel

theorem raw_near {a : Rat} (hi : InL a) : ∃ r8 r16 : Int, (a * Rat.divInt 255 65535 + halfR).floor = r8 ∧ (a + halfR).floor = r16 ∧ 0 ≤ r8 ∧ r8 ≤ 255 ∧ 0 ≤ r16 ∧ r16 ≤ 65535 ∧
    a - (r16 : Rat) ≤ halfR ∧ -halfR ≤ a - (r16 : Rat) ∧ a - ((257 * r8 : Int) : Rat) ≤ halvesR ∧ -halvesR ≤ a - ((257 * r8 : Int) : Rat) := by
  obtain ⟨f0, f1, _⟩ := inL_floor.1 hi
  obtain ⟨n0, n1⟩ := near_bd hi
  have e8 := eight_floor a
  obtain ⟨g1, g2⟩ := floor_bd (a * Rat.divInt 255 65535 + halfR)
  obtain ⟨k1, k2⟩ := floor_bd (a + halfR)
  refine ⟨_, _, rfl, rfl, ?_, ?_, n0, n1, ?_⟩
  · rw [e8]; omega
  · rw [e8]; omega
  generalize (a * Rat.divInt 255 65535 + halfR).floor = r8 at *
  generalize (a + halfR).floor = r16 at *
  have h2 := half_two
  have hw : Rat.divInt 255 65535 * 257 = 1 := by decide +kernel
  generalize Rat.divInt 255 65535 = d at *
  rw [Rat.intCast_mul, halves_eq]
  have c1 : ((257 : Int) : Rat) = 257 := rfl
  rw [c1]
  have e1 : a * d * 257 = a := by grind
  refine ⟨?_, ?_, ?_, ?_⟩ <;> grind
theorem floor_mono {a b : Rat} (h : a ≤ b) : a.floor ≤ b.floor := floor_low (Rat.le_trans (floor_bd a).1 h)
theorem raw_mono {a b : Rat} (h : a ≤ b) : (a * Rat.divInt 255 65535 + halfR).floor ≤ (b * Rat.divInt 255 65535 + halfR).floor ∧ (a + halfR).floor ≤ (b + halfR).floor := by
  have hw : (0 : Rat) ≤ Rat.divInt 255 65535 := by decide +kernel
  have := Rat.mul_le_mul_of_nonneg_right h hw
  exact ⟨floor_mono (by grind), floor_mono (by grind)⟩
theorem eight_at {k : Nat} {a : Rat} (hz : SzR k a) (hk : k ≤ 499) (hi : InL a) (w : World) (ht : Tab w) (hg : Rng w) :
    Calls Tryz.prog 44 #[.string (sR a)] w fun e w' => e = .returned (.tuple #[.int .i64 (a * Rat.divInt 255 65535 + halfR).floor, .int .i64 0]) ∧ Below w.heap.size w w' := by
  have := veight_any (sR a) w (Nat.le_trans hz.len (by omega)) ht hg
  have he := errLv_of hz (by omega) hi
  unfold eightT at this
  rw [he, if_neg (by decide), sR_list, valR_rT] at this
  exact this
theorem sixteen_at {k : Nat} {a : Rat} (hz : SzR k a) (hk : k ≤ 499) (hi : InL a) (w : World) (ht : Tab w) (hg : Rng w) :
    Calls Tryz.prog 45 #[.string (sR a)] w fun e w' => e = .returned (.tuple #[.int .i64 (a + halfR).floor, .int .i64 0]) ∧ Below w.heap.size w w' := by
  have := vsixteen_any (sR a) w (Nat.le_trans hz.len (by omega)) ht hg
  have he := errLv_of hz (by omega) hi
  unfold sixteenT at this
  rw [he, if_neg (by decide), sR_list, valR_rT] at this
  exact this
set_option maxRecDepth 100000 in
set_option maxHeartbeats 8000000 in
theorem graw_walk (w : World) (s : ByteArray) (v st ti x y : Int) (x0 : -9223372036854775808 ≤ x) (x1 : x ≤ 9223372036854775807) (y0 : -9223372036854775808 ≤ y) (y1 : y ≤ 9223372036854775807) (ht : Tab w) (hg : Rng w) :
    Calls Tryz.prog 10 #[.agg #[.string s, .int .i64 v, .int .i64 st, .int .i64 ti], .int .i64 x, .int .i64 y] w fun e w' => e = .returned (.bool true) ∧ Below w.heap.size w w' := by
  have HAw := Lib.hid (fun w h => tryglides_any w h)
  have HF := Lib.hid (fun A c w hl => r3few_any A 1 c [⟨s, v, st, ti⟩] w hl (by decide))
  rw [fewG_one] at HF
  obtain ⟨W, hW⟩ : ∃ W, W = w.alloc (.cells #[.string s, .int .i64 v, .int .i64 st, .int .i64 ti] 24) := ⟨_, rfl⟩
  have hG := GBx.fresh w s v st ti
  have hB0 : Below w.heap.size w W := by rw [hW]; exact (Below.refl _ w).alloc (Nat.le_refl _) _
  rw [← hW] at hG
  have HP := Lib.hid hG.lt
  have HG := Lib.hid hG
  have HW := Lib.hid hW
  have HB0 := Lib.hid hB0
  have hB := Below.refl W.heap.size W
  obtain ⟨-, c0, c1, c2, c3⟩ := hG
  clear hW hB0
  have HT := Lib.hid (ht.below HB0.out)
  have HRg := Lib.hid (hg.below HB0.out)
  have HsW := Lib.hid (show W.heap.size = w.heap.size + 1 by rw [HW.out]; simp)
  clear ht hg
  by_cases hfew : s.size ≤ 120
  · rw [show decide ((⟨s, v, st, ti⟩ : Gl).s.size ≤ 120) = true from decide_eq_true hfew] at HF
    have hs1 : s.size ≤ 1000 := by omega
    have HC := Lib.hid (fun w => r3check_any s v st ti w hs1)
    by_cases herr : errG s.data.toList v st ti = 0
    · rw [herr] at HC
      by_cases hxy : x ≤ y
      · have g1 : ¬ y < x := by omega
        obtain ⟨r, hr, _, hv, hi, v0, v1, s0, s1, i0, i1⟩ := errG_zero hs1 herr
        have hz : SzR 120 r := size_SzR hr hfew (by decide)
        have hzV : SzR 5 (v : Rat) := SzR.int (by omega) (by decide)
        have HWv := Lib.hid (fun w => swhole_fit (x := v) (by omega) (by omega) w)
        have hO1 := fun w => sorder_fit hz hzV w (by decide) (by decide)
        rw [← hr] at hO1
        have HO1 := Lib.hid hO1
        obtain ⟨p, q, hpq, hlo, p0, p1, q0, q1⟩ : ∃ p q : Int, ((¬ 0 < ordR r (v : Rat) ∧ p = x ∧ q = y) ∨ (0 < ordR r (v : Rat) ∧ p = y ∧ q = x)) ∧ lvR r v st ti p ≤ lvR r v st ti q ∧ -9223372036854775808 ≤ p ∧ p ≤ 9223372036854775807 ∧ -9223372036854775808 ≤ q ∧ q ≤ 9223372036854775807 := by
          obtain ⟨u1, u2⟩ := lv_up (r := r) (v := v) (st := st) i0 hxy
          by_cases ho : 0 < ordR r (v : Rat)
          · exact ⟨y, x, .inr ⟨ho, rfl, rfl⟩, u2 (Rat.le_of_lt (ordR_pos.1 ho)), y0, y1, x0, x1⟩
          · exact ⟨x, y, .inl ⟨ho, rfl, rfl⟩, u1 (Rat.not_lt.1 fun h => ho (ordR_pos.2 h)), x0, x1, y0, y1⟩
        have hA := fun w ht => gat_any s v st ti p w hs1 p0 p1 ht
        have hBt := fun w ht => gat_any s v st ti q w hs1 q0 q1 ht
        have e1 : atT s v st ti p = sR (lvR r v st ti p) := by unfold atT; rw [if_neg (fun hn => hn herr), hr, ofT_lv]
        have e2 : atT s v st ti q = sR (lvR r v st ti q) := by unfold atT; rw [if_neg (fun hn => hn herr), hr, ofT_lv]
        rw [e1, herr] at hA
        rw [e2, herr] at hBt
        have hzA : SzR (120 + (5 + 120 + 1 + 8) + 1) (lvR r v st ti p) := lv_sz hz v0 v1 i0 i1
        have hzB : SzR (120 + (5 + 120 + 1 + 8) + 1) (lvR r v st ti q) := lv_sz hz v0 v1 i0 i1
        have hIA : InL (lvR r v st ti p) := lv_in i0 hi v0 v1
        have hIB : InL (lvR r v st ti q) := lv_in i0 hi v0 v1
        generalize lvR r v st ti p = a at *
        generalize lvR r v st ti q = b at *
        generalize ordR r (v : Rat) = o1 at *
        have hlA := fun w => r3level_any (sR a) w (Nat.le_trans hzA.len (by decide))
        have hlB := fun w => r3level_any (sR b) w (Nat.le_trans hzB.len (by decide))
        rw [errLv_of hzA (by decide) hIA] at hlA
        rw [errLv_of hzB (by decide) hIB] at hlB
        have hE1 := fun w h g => eight_at hzA (by decide) hIA w h g
        have hE2 := fun w h g => eight_at hzB (by decide) hIB w h g
        have hS1 := fun w h g => sixteen_at hzA (by decide) hIA w h g
        have hS2 := fun w h g => sixteen_at hzB (by decide) hIB w h g
        obtain ⟨m1, m2⟩ := raw_mono hlo
        obtain ⟨a8, a16, ea8, ea16, a80, a81, a160, a161, n1, n2, n3, n4⟩ := raw_near hIA
        obtain ⟨b8, b16, eb8, eb16, b80, b81, b160, b161, _⟩ := raw_near hIB
        rw [ea8] at hE1 m1
        rw [eb8] at hE2 m1
        rw [ea16] at hS1 m2
        rw [eb16] at hS2 m2
        have sz16 : SzR 5 ((a16 : Int) : Rat) := SzR.int (by omega) (by decide)
        have sz8 : SzR 5 ((257 * a8 : Int) : Rat) := SzR.int (by omega) (by decide)
        have HW16 := Lib.hid (fun w => swhole_fit (x := a16) (by omega) (by omega) w)
        have HW8 := Lib.hid (fun w => swhole_fit (x := 257 * a8) (by omega) (by omega) w)
        have HM16 := Lib.hid (fun w => sminus_fit hzA sz16 w (by decide) (by decide))
        have HM8 := Lib.hid (fun w => sminus_fit hzA sz8 w (by decide) (by decide))
        have hN16 := fun w => trynear_fit (hzA.sub sz16) half_sz (by decide) (by decide) n1 n2 w
        have hN8 := fun w => trynear_fit (hzA.sub sz8) halves_sz (by decide) (by decide) n3 n4 w
        rw [← half_bytes] at hN16
        rw [← halves_bytes] at hN8
        have w8 : IntKind.i64.wrap (257 * a8) = 257 * a8 := IntWalk.i64_in _ (by omega)
        generalize sR (a - ((257 * a8 : Int) : Rat)) = SM8 at *
        generalize sR (a - ((a16 : Int) : Rat)) = SM16 at *
        generalize sR ((257 * a8 : Int) : Rat) = SW8 at *
        generalize sR ((a16 : Int) : Rat) = SW16 at *
        generalize sR a = SA at *
        generalize sR b = SB at *
        generalize sR (v : Rat) = SV at *
        have HA := Lib.hid hA
        have HBt := Lib.hid hBt
        have HlA := Lib.hid hlA
        have HlB := Lib.hid hlB
        have HE1 := Lib.hid hE1
        have HE2 := Lib.hid hE2
        have HS1 := Lib.hid hS1
        have HS2 := Lib.hid hS2
        have HN16 := Lib.hid hN16
        have HN8 := Lib.hid hN8
        clear hA hBt hlA hlB hE1 hE2 hS1 hS2 hN16 hN8 hO1 hr hv hi hz hzA hzB hzV hIA hIB n1 n2 n3 n4 sz16 sz8 e1 e2 ea8 eb8 ea16 eb16 hlo herr
        rcases hpq with ⟨hord, rfl, rfl⟩ | ⟨hord, rfl, rfl⟩
        all_goals
          go_enter Tryz.func10, Tryz.ntmps10
          go_wp2_with fail
          rw [← HW.out]
          go_wp2_with (first | (go_at_call 16; refine (HF.out _ _ _ (inOne _ _ _ HsW.out.symm ⟨s, v, st, ti⟩)).mono ?_; rintro e wk ⟨rfl, hb⟩; replace hB := (hB.alloc hB.size _).trans (hb.mono (hB.alloc hB.size _).size); clear hb; obtain ⟨-, c0, c1, c2, c3⟩ := HG.out.below HP.out hB) | (go_at_call 25; with_reducible refine (HC.out _).mono ?_; rintro e wk ⟨rfl, hb⟩; replace hB := hB.trans (hb.mono hB.size); clear hb; obtain ⟨-, c0, c1, c2, c3⟩ := HG.out.below HP.out hB))
          replace hB := below_drewN hB 1
          obtain ⟨-, c0, c1, c2, c3⟩ := HG.out.below HP.out hB
          go_region_held3 (fun w' => w'.cell? ⟨w.heap.size, 0, none⟩ = some (.string s) ∧ w'.cell? ⟨w.heap.size, 1, none⟩ = some (.int .i64 v) ∧ w'.cell? ⟨w.heap.size, 2, none⟩ = some (.int .i64 st) ∧ w'.cell? ⟨w.heap.size, 3, none⟩ = some (.int .i64 ti)) (exact ⟨c0, c1, c2, c3⟩) (first | (go_at_call 32; refine (HWv.out _).mono ?_; rintro e wk ⟨rfl, hb⟩; replace hB := hB.trans (hb.mono hB.size); clear hb; obtain ⟨-, c0, c1, c2, c3⟩ := HG.out.below HP.out hB) | (go_at_call 33; refine (HO1.out _).mono ?_; rintro e wk ⟨rfl, hb⟩; replace hB := hB.trans (hb.mono hB.size); clear hb; obtain ⟨-, c0, c1, c2, c3⟩ := HG.out.below HP.out hB))
          go_wp2_with (first | (go_at_call 16; refine (HF.out _ _ _ (inOne _ _ _ HsW.out.symm ⟨s, v, st, ti⟩)).mono ?_; rintro e wk ⟨rfl, hb⟩; replace hB := (hB.alloc hB.size _).trans (hb.mono (hB.alloc hB.size _).size); clear hb; obtain ⟨-, c0, c1, c2, c3⟩ := HG.out.below HP.out hB) | (go_at_call 25; with_reducible refine (HC.out _).mono ?_; rintro e wk ⟨rfl, hb⟩; replace hB := hB.trans (hb.mono hB.size); clear hb; obtain ⟨-, c0, c1, c2, c3⟩ := HG.out.below HP.out hB) | (go_at_call 28; with_reducible refine (HA.out _ (HT.out.below hB)).mono ?_; rintro e wk ⟨rfl, hb⟩; replace hB := hB.trans (hb.mono hB.size); clear hb; obtain ⟨-, c0, c1, c2, c3⟩ := HG.out.below HP.out hB) | (go_at_call 28; with_reducible refine (HBt.out _ (HT.out.below hB)).mono ?_; rintro e wk ⟨rfl, hb⟩; replace hB := hB.trans (hb.mono hB.size); clear hb; obtain ⟨-, c0, c1, c2, c3⟩ := HG.out.below HP.out hB) | (go_at_call 31; with_reducible refine (HlA.out _).mono ?_; rintro e wk ⟨rfl, hb⟩; replace hB := hB.trans (hb.mono hB.size); clear hb; obtain ⟨-, c0, c1, c2, c3⟩ := HG.out.below HP.out hB) | (go_at_call 31; with_reducible refine (HlB.out _).mono ?_; rintro e wk ⟨rfl, hb⟩; replace hB := hB.trans (hb.mono hB.size); clear hb; obtain ⟨-, c0, c1, c2, c3⟩ := HG.out.below HP.out hB) | (go_at_call 32; with_reducible refine (HWv.out _).mono ?_; rintro e wk ⟨rfl, hb⟩; replace hB := hB.trans (hb.mono hB.size); clear hb; obtain ⟨-, c0, c1, c2, c3⟩ := HG.out.below HP.out hB) | (go_at_call 32; with_reducible refine (HW16.out _).mono ?_; rintro e wk ⟨rfl, hb⟩; replace hB := hB.trans (hb.mono hB.size); clear hb; obtain ⟨-, c0, c1, c2, c3⟩ := HG.out.below HP.out hB) | (go_at_call 32; with_reducible refine (HW8.out _).mono ?_; rintro e wk ⟨rfl, hb⟩; replace hB := hB.trans (hb.mono hB.size); clear hb; obtain ⟨-, c0, c1, c2, c3⟩ := HG.out.below HP.out hB) | (go_at_call 33; with_reducible refine (HO1.out _).mono ?_; rintro e wk ⟨rfl, hb⟩; replace hB := hB.trans (hb.mono hB.size); clear hb; obtain ⟨-, c0, c1, c2, c3⟩ := HG.out.below HP.out hB) | (go_at_call 46; with_reducible refine (HM16.out _).mono ?_; rintro e wk ⟨rfl, hb⟩; replace hB := hB.trans (hb.mono hB.size); clear hb; obtain ⟨-, c0, c1, c2, c3⟩ := HG.out.below HP.out hB) | (go_at_call 46; with_reducible refine (HM8.out _).mono ?_; rintro e wk ⟨rfl, hb⟩; replace hB := hB.trans (hb.mono hB.size); clear hb; obtain ⟨-, c0, c1, c2, c3⟩ := HG.out.below HP.out hB) | (go_at_call 47; with_reducible refine (HN16.out _).mono ?_; rintro e wk ⟨rfl, hb⟩; replace hB := hB.trans (hb.mono hB.size); clear hb; obtain ⟨-, c0, c1, c2, c3⟩ := HG.out.below HP.out hB) | (go_at_call 47; with_reducible refine (HN8.out _).mono ?_; rintro e wk ⟨rfl, hb⟩; replace hB := hB.trans (hb.mono hB.size); clear hb; obtain ⟨-, c0, c1, c2, c3⟩ := HG.out.below HP.out hB) | (go_at_call 44; with_reducible refine (HE1.out _ (HT.out.below hB) (HRg.out.below hB)).mono ?_; rintro e wk ⟨rfl, hb⟩; replace hB := hB.trans (hb.mono hB.size); clear hb; obtain ⟨-, c0, c1, c2, c3⟩ := HG.out.below HP.out hB) | (go_at_call 44; with_reducible refine (HE2.out _ (HT.out.below hB) (HRg.out.below hB)).mono ?_; rintro e wk ⟨rfl, hb⟩; replace hB := hB.trans (hb.mono hB.size); clear hb; obtain ⟨-, c0, c1, c2, c3⟩ := HG.out.below HP.out hB) | (go_at_call 45; with_reducible refine (HS1.out _ (HT.out.below hB) (HRg.out.below hB)).mono ?_; rintro e wk ⟨rfl, hb⟩; replace hB := hB.trans (hb.mono hB.size); clear hb; obtain ⟨-, c0, c1, c2, c3⟩ := HG.out.below HP.out hB) | (go_at_call 45; with_reducible refine (HS2.out _ (HT.out.below hB) (HRg.out.below hB)).mono ?_; rintro e wk ⟨rfl, hb⟩; replace hB := hB.trans (hb.mono hB.size); clear hb; obtain ⟨-, c0, c1, c2, c3⟩ := HG.out.below HP.out hB) | (go_at_call 43; with_reducible refine (HAw.out _ (HT.out.below hB) (HRg.out.below hB)).mono ?_; rintro e wk ⟨rfl, hb⟩; replace hB := hB.trans (hb.mono hB.size); clear hb; obtain ⟨-, c0, c1, c2, c3⟩ := HG.out.below HP.out hB))
          go_ret
          exact ⟨rfl, HB0.out.trans (hB.mono HB0.out.size)⟩
      · have g1 : y < x := by omega
        go_enter Tryz.func10, Tryz.ntmps10
        go_wp2_with fail
        rw [← HW.out]
        go_wp2_with (first | (go_at_call 16; refine (HF.out _ _ _ (inOne _ _ _ HsW.out.symm ⟨s, v, st, ti⟩)).mono ?_; rintro e wk ⟨rfl, hb⟩; replace hB := (hB.alloc hB.size _).trans (hb.mono (hB.alloc hB.size _).size); clear hb; obtain ⟨-, c0, c1, c2, c3⟩ := HG.out.below HP.out hB) | (go_at_call 25; with_reducible refine (HC.out _).mono ?_; rintro e wk ⟨rfl, hb⟩; replace hB := hB.trans (hb.mono hB.size); clear hb; obtain ⟨-, c0, c1, c2, c3⟩ := HG.out.below HP.out hB) | (go_at_call 43; with_reducible refine (HAw.out _ (HT.out.below hB) (HRg.out.below hB)).mono ?_; rintro e wk ⟨rfl, hb⟩; replace hB := hB.trans (hb.mono hB.size); clear hb; obtain ⟨-, c0, c1, c2, c3⟩ := HG.out.below HP.out hB))
        go_ret
        exact ⟨rfl, HB0.out.trans (hB.mono HB0.out.size)⟩
    · generalize errG s.data.toList v st ti = k at *
      have g1 : (k == 0) = false := by simpa using herr
      have g2 : (k != 0) = true := by simpa using herr
      go_enter Tryz.func10, Tryz.ntmps10
      go_wp2_with fail
      rw [← HW.out]
      go_wp2_with (first | (go_at_call 16; refine (HF.out _ _ _ (inOne _ _ _ HsW.out.symm ⟨s, v, st, ti⟩)).mono ?_; rintro e wk ⟨rfl, hb⟩; replace hB := (hB.alloc hB.size _).trans (hb.mono (hB.alloc hB.size _).size); clear hb; obtain ⟨-, c0, c1, c2, c3⟩ := HG.out.below HP.out hB) | (go_at_call 25; with_reducible refine (HC.out _).mono ?_; rintro e wk ⟨rfl, hb⟩; replace hB := hB.trans (hb.mono hB.size); clear hb; obtain ⟨-, c0, c1, c2, c3⟩ := HG.out.below HP.out hB) | (go_at_call 43; with_reducible refine (HAw.out _ (HT.out.below hB) (HRg.out.below hB)).mono ?_; rintro e wk ⟨rfl, hb⟩; replace hB := hB.trans (hb.mono hB.size); clear hb; obtain ⟨-, c0, c1, c2, c3⟩ := HG.out.below HP.out hB))
      go_ret
      exact ⟨rfl, HB0.out.trans (hB.mono HB0.out.size)⟩
  · rw [show decide ((⟨s, v, st, ti⟩ : Gl).s.size ≤ 120) = false from decide_eq_false hfew] at HF
    go_enter Tryz.func10, Tryz.ntmps10
    go_wp2_with fail
    rw [← HW.out]
    go_wp2_with (first | (go_at_call 16; refine (HF.out _ _ _ (inOne _ _ _ HsW.out.symm ⟨s, v, st, ti⟩)).mono ?_; rintro e wk ⟨rfl, hb⟩; replace hB := (hB.alloc hB.size _).trans (hb.mono (hB.alloc hB.size _).size); clear hb; obtain ⟨-, c0, c1, c2, c3⟩ := HG.out.below HP.out hB) | (go_at_call 43; with_reducible refine (HAw.out _ (HT.out.below hB) (HRg.out.below hB)).mono ?_; rintro e wk ⟨rfl, hb⟩; replace hB := hB.trans (hb.mono hB.size); clear hb; obtain ⟨-, c0, c1, c2, c3⟩ := HG.out.below HP.out hB))
    go_ret
    exact ⟨rfl, HB0.out.trans (hB.mono HB0.out.size)⟩
theorem top_raw (w : World) (g : Gl) (_ : g.good) (x : Int) (hx : (Lit.int .i64 x).wf = true) (y : Int) (hy : (Lit.int .i64 y).wf = true) (hL : Laid w) :
    Calls Tryz.prog 10 #[.agg (shG.cs g).toArray, .int .i64 x, .int .i64 y] w fun e w' => e = .returned (.bool true) ∧ Below w.heap.size w w' :=
  graw_walk w g.s g.v g.st g.ti x y (int_bd hx).1 (int_bd hx).2 (int_bd hy).1 (int_bd hy).2 hL.1 hL.2
end Go.Proofs.YtjnhdimllllgaaaGreatDoor

namespace Go.Proofs.YtjnhdimllllgaaaGreatDoor
open Go.RowKit

theorem boxes_two (T : TypeId) (w : World) (x y z : Int) (s : ByteArray) (v st ti : Int) (W : World) (hW : (w.alloc (.cells #[.int .i64 x, .int .i64 y, .int .i64 z] T)).alloc (.cells #[.string s, .int .i64 v, .int .i64 st, .int .i64 ti] 24) = W) :
    Below w.heap.size w W ∧ W.heap.size = w.heap.size + 1 + 1 ∧ ∀ w', Below W.heap.size W w' → (w'.cell? ⟨w.heap.size, 0, none⟩ = some (.int .i64 x) ∧ w'.cell? ⟨w.heap.size, 1, none⟩ = some (.int .i64 y) ∧ w'.cell? ⟨w.heap.size, 2, none⟩ = some (.int .i64 z)) ∧ GBx s v st ti (w.heap.size + 1) w' := by
  have hb1 : Below w.heap.size w (w.alloc (.cells #[.int .i64 x, .int .i64 y, .int .i64 z] T)) := (Below.refl _ w).alloc (Nat.le_refl _) _
  have hG := GBx.fresh (w.alloc (.cells #[.int .i64 x, .int .i64 y, .int .i64 z] T)) s v st ti
  rw [show (w.alloc (.cells #[.int .i64 x, .int .i64 y, .int .i64 z] T)).heap.size = w.heap.size + 1 by simp, hW] at hG
  have hs : W.heap.size = w.heap.size + 1 + 1 := by rw [← hW]; simp
  refine ⟨by rw [← hW]; exact hb1.alloc hb1.size _, hs, fun w' h => ⟨three_keep0 (by omega) ⟨?_, ?_, ?_⟩ h, hG.below hG.lt h⟩⟩
  · rw [← hW, World.cell?_of_block (heap_alloc_old _ _ _ (by simp)), World.cell?_alloc_new]; rfl
  · rw [← hW, World.cell?_of_block (heap_alloc_old _ _ _ (by simp)), World.cell?_alloc_new]; rfl
  · rw [← hW, World.cell?_of_block (heap_alloc_old _ _ _ (by simp)), World.cell?_alloc_new]; rfl
theorem next_ok2 {s : ByteArray} {v st ti : Int} (hfew : s.size ≤ 200) (herr : errG s.data.toList v st ti = 0) {x y z : Int} (hx : inT 10000000 x = true) (hy : inT 65535 y = true) (hz : inT 10000000 z = true) :
    ∃ S : ByteArray, S.size ≤ 1000 ∧ goT s v st ti x y z = .agg #[.string S, .int .i64 y, .int .i64 x, .int .i64 z] ∧ errGo s.data.toList v st ti x y z = 0 ∧ (⟨S, y, x, z⟩ : Gl).err = 0 ∧ S = (⟨s, v, st, ti⟩ : Gl).of x := by
  have hi1 : 0 ≤ x ∧ x ≤ 10000000 := by simpa [inT] using hx
  have hi2 : 0 ≤ z ∧ z ≤ 10000000 := by simpa [inT] using hz
  have hi3 : 0 ≤ y ∧ y ≤ 65535 := by simpa [inT] using hy
  have hE : errGo s.data.toList v st ti x y z = 0 := by
    unfold errGo
    rw [herr, if_neg (by decide), hx, hz, hy, if_pos (by decide)]
  have hs1 : s.size ≤ 1000 := by omega
  obtain ⟨r, hr, _, hv, hi, v0, v1, s0, s1, i0, i1⟩ := errG_zero hs1 herr
  have hzr : SzR 200 r := size_SzR hr hfew (by decide)
  have hzB : SzR (200 + (5 + 200 + 1 + 8) + 1) (lvR r v st ti x) := lv_sz hzr v0 v1 i0 i1
  have hsB : (sR (lvR r v st ti x)).size ≤ 1000 := Nat.le_trans hzB.len (by decide)
  have eB : ofT s v st ti x = sR (lvR r v st ti x) := by rw [hr, ofT_lv]
  refine ⟨sR (lvR r v st ti x), hsB, by unfold goT; rw [hE, if_neg (by decide), eB], hE, ?_, by rw [← eB]; rfl⟩
  show errG (sR (lvR r v st ti x)).data.toList y x z = 0
  unfold errG
  rw [errLv_of hzB (by decide) (lv_in i0 hi v0 v1), if_neg (by decide), if_pos (by simp [inT]; omega)]
theorem try_cells {H : Type} {enc : TypeId × Value → H} {w : World} {base : Nat} {spare : Nat → Bool} {held : Bool} {fuel : Nat} {cs : List Value} {x : DataW H × List MemPlace} (h : DataW.trod enc Tryz.prog w base spare held fuel 81 cs = some x) : ∃ g : Tn, cs = shT.cs g ∧ g.good :=
  turn_of (by kernel_rfl) (by kernel_rfl) (by kernel_rfl) h

structure ChOf (g : Gl) (l : List Tn) (C : List Gl) : Prop where
  len : C.length = l.length + 1
  ok : chF none C = 0
  sz : ∀ x ∈ C, x.s.size ≤ 200
  hd : C[0]? = some g
  nx : ∀ k (h : k < l.length), ∃ S, C[k + 1]? = some ⟨S, l[k].lv, l[k].at_, l[k].ti⟩
theorem ChOf.one {g : Gl} (h : g.err = 0) (hs : g.s.size ≤ 200) : ChOf g [] [g] :=
  ⟨rfl, by rw [chF_cons, if_neg (fun hn => hn h)]; exact chF_nil _, fun x hx => by rw [List.mem_singleton.1 hx]; exact hs, rfl, fun k h => by simp at h⟩
theorem ChOf.push {g : Gl} {l : List Tn} {C : List Gl} (h : ChOf g l C) {S : ByteArray} {y : Tn} (hn : (⟨S, y.lv, y.at_, y.ti⟩ : Gl).err = 0) (hs : S.size ≤ 200) (hq : ∀ q, C.getLast? = some q → q.st ≤ y.at_ ∧ S = q.of y.at_) : ChOf g (l ++ [y]) (C ++ [⟨S, y.lv, y.at_, y.ti⟩]) := by
  have hl := h.len
  refine ⟨by simp [hl], ch_push (by intro h0; rw [h0] at hl; simp at hl) h.ok hn hq, fun x hx => ?_, by rw [List.getElem?_append_left (by omega)]; exact h.hd, fun k hk => ?_⟩
  · rcases List.mem_append.1 hx with h1 | h1
    · exact h.sz x h1
    · rw [List.mem_singleton.1 h1]; exact hs
  · simp at hk
    by_cases h2 : k < l.length
    · obtain ⟨S', e⟩ := h.nx k h2
      refine ⟨S', ?_⟩
      rw [List.getElem?_append_left (by omega), e, List.getElem_append_left h2]
    · obtain rfl : k = l.length := by omega
      refine ⟨S, ?_⟩
      rw [List.getElem?_append_right (by omega), hl, Nat.sub_self]
      simp
set_option maxRecDepth 100000 in
set_option maxHeartbeats 8000000 in
theorem trychain_any (w : World) (s : ByteArray) (v st ti : Int) (A : Option Addr) (n c : Nat) (l : List Tn) (hl : shT.In w A n l) (hn : n ≤ 5) (hg : ∀ x ∈ l, x.good) (hfew : s.size ≤ 200) (herr : errG s.data.toList v st ti = 0) (ht : Tab w) :
    Calls Tryz.prog 48 #[.agg #[.string s, .int .i64 v, .int .i64 st, .int .i64 ti], .slice A n c] w fun e w' => Below w.heap.size w w' ∧ (e = .returned (.tuple #[.slice none 0 0, .bool false]) ∨ ∃ r C, e = .returned (.tuple #[r, .bool true]) ∧ ChOf ⟨s, v, st, ti⟩ l C ∧ shG.Out 24 C w r w') := by
  obtain ⟨rfl, _⟩ := id hl
  have hone := ChOf.one (g := ⟨s, v, st, ti⟩) herr hfew
  obtain ⟨W, hW⟩ : ∃ W, W = w.alloc (.cells #[.string s, .int .i64 v, .int .i64 st, .int .i64 ti] 24) := ⟨_, rfl⟩
  have hG := GBx.fresh w s v st ti
  have hB0 : Below w.heap.size w W := by rw [hW]; exact (Below.refl _ w).alloc (Nat.le_refl _) _
  rw [← hW] at hG
  have HP := Lib.hid hG.lt
  have HG := Lib.hid hG
  have HW := Lib.hid hW
  have HB0 := Lib.hid hB0
  have hB := Below.refl W.heap.size W
  obtain ⟨-, c0, c1, c2, c3⟩ := hG
  clear hW hB0
  have HT := Lib.hid (ht.below HB0.out)
  have HL := Lib.hid (hl.below HB0.out)
  have Hg := Lib.hid hg
  have HsW := Lib.hid (show W.heap.size = w.heap.size + 1 by rw [HW.out]; simp)
  clear ht hl hg herr hfew
  go_enter Tryz.func48, Tryz.ntmps48
  go_wp2_with fail
  rw [← HW.out]
  go_wp2_with fail
  go_loopw [6, 16] (fun vch iv wr => ∃ (k : Nat) (C : List Gl), k ≤ l.length ∧ iv = .int .i64 k ∧ ChOf ⟨s, v, st, ti⟩ (l.take k) C ∧ wr.ownsRow W.heap.size 24 4 vch (k + 1) (shG.vs C) ∧ Below W.heap.size W wr) (fun _ iv _ => l.length - (intOf iv).toNat)
  case atStart => exact ⟨0, [⟨s, v, st, ti⟩], Nat.zero_le _, rfl, hone, (by have h := World.ownsRow_lit (base := W.heap.size) (size := 4) (e := 24) W #[.string s, .int .i64 v, .int .i64 st, .int .i64 ti] 1 hB.size (by decide) rfl; rw [HsW.out] at h ⊢; exact h), hB.alloc hB.size _⟩
  case round =>
    obtain ⟨k, C, hk, rfl, hC, hown, hBr⟩ := hrel
    have HBr := Lib.hid hBr
    have hCl : C.length = k + 1 := by rw [hC.len, List.length_take]; omega
    obtain ⟨A0, cc0, rfl⟩ := own_form hown
    obtain ⟨b, o, rfl, hb0, hcell⟩ := gl_at (Sh.In.of_own hown hCl.symm) (by omega)
    obtain ⟨p0, p1, p2, p3⟩ := hcell k (by omega)
    by_cases hlt : k < l.length
    · obtain ⟨bt, ot, rfl, hbt, hct⟩ := tn_at HL.out (by omega)
      obtain ⟨q0, q1, q2⟩ := three_keep hbt (hct k hlt) hBr
      have hgd := Hg.out _ (List.getElem_mem hlt)
      have hlk : k < C.length := by omega
      have hla : C.getLast? = some C[k] := by rw [List.getLast?_eq_getElem?, hCl, Nat.add_sub_cancel, List.getElem?_eq_getElem hlk]
      have hek := (chF_up hC.ok).1 _ (List.getElem_mem hlk)
      have hsk := hC.sz _ (List.getElem_mem hlk)
      have hpu : ∀ S : ByteArray, (⟨S, l[k].lv, l[k].at_, l[k].ti⟩ : Gl).err = 0 → S.size ≤ 200 → C[k].st ≤ l[k].at_ → S = C[k].of l[k].at_ → ChOf ⟨s, v, st, ti⟩ (l.take (k + 1)) (C ++ [⟨S, l[k].lv, l[k].at_, l[k].ti⟩]) := fun S h1 h2 h3 h4 => by
        rw [List.take_succ_eq_append_getElem hlt]
        exact hC.push h1 h2 (fun q hq => by rw [hla] at hq; cases hq; exact ⟨h3, h4⟩)
      clear hcell hct hla
      generalize l[k] = xk at *
      obtain ⟨X, Y, Z⟩ := xk
      generalize C[k] = gk at *
      obtain ⟨S, V, T, I⟩ := gk
      dsimp only at *
      have HT1 := Lib.hid (fun w => r3timeB X w)
      have HT2 := Lib.hid (fun w => r3timeB Z w)
      have HWl := Lib.hid (fun w => r3wholeB Y w)
      obtain ⟨Wb, hWb⟩ : ∃ Wb, (wr.alloc (.cells #[.int .i64 X, .int .i64 Y, .int .i64 Z] 81)).alloc (.cells #[.string S, .int .i64 V, .int .i64 T, .int .i64 I] 24) = Wb := ⟨_, rfl⟩
      obtain ⟨hbb, hsb, hkb⟩ := boxes_two 81 wr X Y Z S V T I Wb hWb
      have HWb := Lib.hid hWb
      have HK := Lib.hid hkb
      have HBb := Lib.hid (HBr.out.trans (hbb.mono HBr.out.size))
      have HBw := Lib.hid (HB0.out.trans (HBb.out.mono HB0.out.size))
      have HT0 := HT
      replace HT := Lib.hid (HT.out.below HBb.out)
      have hown1 := own_below hown hbb
      have HPu := Lib.hid hpu
      clear hWb hkb hBr hown hC hpu
      have hB := Below.refl Wb.heap.size Wb
      cases hx1 : inT 10000000 X with
      | false =>
        rw [hx1] at HT1
        go_wp2_with fail
        rw [HWb.out]
        go_wp2_with (first | (go_at_call 26; with_reducible refine (HT1.out _).mono ?_; rintro e wk ⟨rfl, hb⟩; replace hB := hB.trans (hb.mono hB.size); clear hb; obtain ⟨⟨q0, q1, q2⟩, ⟨-, p0, p1, p2, p3⟩⟩ := HK.out _ hB) | (go_at_call 27; with_reducible refine (HWl.out _).mono ?_; rintro e wk ⟨rfl, hb⟩; replace hB := hB.trans (hb.mono hB.size); clear hb; obtain ⟨⟨q0, q1, q2⟩, ⟨-, p0, p1, p2, p3⟩⟩ := HK.out _ hB) | (go_at_call 26; with_reducible refine (HT2.out _).mono ?_; rintro e wk ⟨rfl, hb⟩; replace hB := hB.trans (hb.mono hB.size); clear hb; obtain ⟨⟨q0, q1, q2⟩, ⟨-, p0, p1, p2, p3⟩⟩ := HK.out _ hB))
        go_ret2
        exact ⟨HBw.out.trans (hB.mono HBw.out.size), .inl rfl⟩
      | true =>
        rw [hx1] at HT1
        cases hy1 : inT 65535 Y with
        | false =>
          rw [hy1] at HWl
          go_wp2_with fail
          rw [HWb.out]
          go_wp2_with (first | (go_at_call 26; with_reducible refine (HT1.out _).mono ?_; rintro e wk ⟨rfl, hb⟩; replace hB := hB.trans (hb.mono hB.size); clear hb; obtain ⟨⟨q0, q1, q2⟩, ⟨-, p0, p1, p2, p3⟩⟩ := HK.out _ hB) | (go_at_call 27; with_reducible refine (HWl.out _).mono ?_; rintro e wk ⟨rfl, hb⟩; replace hB := hB.trans (hb.mono hB.size); clear hb; obtain ⟨⟨q0, q1, q2⟩, ⟨-, p0, p1, p2, p3⟩⟩ := HK.out _ hB) | (go_at_call 26; with_reducible refine (HT2.out _).mono ?_; rintro e wk ⟨rfl, hb⟩; replace hB := hB.trans (hb.mono hB.size); clear hb; obtain ⟨⟨q0, q1, q2⟩, ⟨-, p0, p1, p2, p3⟩⟩ := HK.out _ hB))
          go_ret2
          exact ⟨HBw.out.trans (hB.mono HBw.out.size), .inl rfl⟩
        | true =>
          rw [hy1] at HWl
          cases hz1 : inT 10000000 Z with
          | false =>
            rw [hz1] at HT2
            go_wp2_with fail
            rw [HWb.out]
            go_wp2_with (first | (go_at_call 26; with_reducible refine (HT1.out _).mono ?_; rintro e wk ⟨rfl, hb⟩; replace hB := hB.trans (hb.mono hB.size); clear hb; obtain ⟨⟨q0, q1, q2⟩, ⟨-, p0, p1, p2, p3⟩⟩ := HK.out _ hB) | (go_at_call 27; with_reducible refine (HWl.out _).mono ?_; rintro e wk ⟨rfl, hb⟩; replace hB := hB.trans (hb.mono hB.size); clear hb; obtain ⟨⟨q0, q1, q2⟩, ⟨-, p0, p1, p2, p3⟩⟩ := HK.out _ hB) | (go_at_call 26; with_reducible refine (HT2.out _).mono ?_; rintro e wk ⟨rfl, hb⟩; replace hB := hB.trans (hb.mono hB.size); clear hb; obtain ⟨⟨q0, q1, q2⟩, ⟨-, p0, p1, p2, p3⟩⟩ := HK.out _ hB))
            go_ret2
            exact ⟨HBw.out.trans (hB.mono HBw.out.size), .inl rfl⟩
          | true =>
            rw [hz1] at HT2
            by_cases hst : X < T
            · skip
              go_wp2_with fail
              rw [HWb.out]
              go_wp2_with (first | (go_at_call 26; with_reducible refine (HT1.out _).mono ?_; rintro e wk ⟨rfl, hb⟩; replace hB := hB.trans (hb.mono hB.size); clear hb; obtain ⟨⟨q0, q1, q2⟩, ⟨-, p0, p1, p2, p3⟩⟩ := HK.out _ hB) | (go_at_call 27; with_reducible refine (HWl.out _).mono ?_; rintro e wk ⟨rfl, hb⟩; replace hB := hB.trans (hb.mono hB.size); clear hb; obtain ⟨⟨q0, q1, q2⟩, ⟨-, p0, p1, p2, p3⟩⟩ := HK.out _ hB) | (go_at_call 26; with_reducible refine (HT2.out _).mono ?_; rintro e wk ⟨rfl, hb⟩; replace hB := hB.trans (hb.mono hB.size); clear hb; obtain ⟨⟨q0, q1, q2⟩, ⟨-, p0, p1, p2, p3⟩⟩ := HK.out _ hB))
              go_ret2
              exact ⟨HBw.out.trans (hB.mono HBw.out.size), .inl rfl⟩
            · have g1 : ¬ X < T := hst
              obtain ⟨SN, n1, n2, n3, n4, n5⟩ := next_ok2 hsk hek hx1 hy1 hz1
              have hGo := fun w ht => ggo_any S V T I X Y Z w (Nat.le_trans hsk (by decide)) hgd.1.1 hgd.1.2 ht
              rw [n2, n3] at hGo
              have HGo := Lib.hid hGo
              have hCk := fun w => r3check_any SN Y X Z w n1
              rw [show errG SN.data.toList Y X Z = 0 from n4] at hCk
              have HCk := Lib.hid hCk
              have HR := Lib.hid (fun h2 => HPu.out SN n4 h2 (by omega) n5)
              have Hown := Lib.hid hown1
              clear hGo hCk n1 n2 n3 n4 n5 hek hsk hown1 hgd
              go_wp2_with fail
              rw [HWb.out]
              go_wp2_with (first | (go_at_call 26; with_reducible refine (HT1.out _).mono ?_; rintro e wk ⟨rfl, hb⟩; replace hB := hB.trans (hb.mono hB.size); clear hb; obtain ⟨⟨q0, q1, q2⟩, ⟨-, p0, p1, p2, p3⟩⟩ := HK.out _ hB) | (go_at_call 27; with_reducible refine (HWl.out _).mono ?_; rintro e wk ⟨rfl, hb⟩; replace hB := hB.trans (hb.mono hB.size); clear hb; obtain ⟨⟨q0, q1, q2⟩, ⟨-, p0, p1, p2, p3⟩⟩ := HK.out _ hB) | (go_at_call 26; with_reducible refine (HT2.out _).mono ?_; rintro e wk ⟨rfl, hb⟩; replace hB := hB.trans (hb.mono hB.size); clear hb; obtain ⟨⟨q0, q1, q2⟩, ⟨-, p0, p1, p2, p3⟩⟩ := HK.out _ hB))
              refine (HGo.out _ (HT.out.below hB)).mono ?_
              rintro e wg ⟨rfl, hb⟩
              replace hB := hB.trans (hb.mono hB.size)
              obtain ⟨⟨q0, q1, q2⟩, ⟨-, p0, p1, p2, p3⟩⟩ := HK.out _ hB
              clear hb
              go_wp2_with fail
              generalize hWh : World.alloc wg _ = Wh
              have hh : GBx SN Y X Z wg.heap.size Wh := by rw [← hWh]; exact GBx.fresh wg _ _ _ _
              have hBh : Below wg.heap.size wg Wh := by rw [← hWh]; exact (Below.refl _ wg).alloc (Nat.le_refl _) _
              replace hB := hB.trans (hBh.mono hB.size)
              clear hWh hBh
              refine (HCk.out _).mono ?_
              rintro e wf ⟨rfl, hb⟩
              replace hB := hB.trans (hb.mono hB.size)
              obtain ⟨-, h0, h1, h2, h3⟩ := hh.below hh.lt hb
              clear hb hh
              by_cases hf2 : SN.size ≤ 200
              · have HR := Lib.hid (HR.out hf2)
                have g4 : ¬ 200 < (SN.size : Int) := by omega
                clear hf2
                have hown := own_below Hown.out hB
                have hbase := HBb.out.trans (hB.mono HBb.out.size)
                have hbs := hbase.size
                go_wp2_with (at_builtin; refine wpList_push rfl _ _ _ rfl W.heap.size _ _ 4 40 Tryz.underlying34 infoGl rfl (by omega) _ (k + 1) _ rfl hown [.string SN, .int .i64 Y, .int .i64 X, .int .i64 Z] _ _ _ rfl (by first | rfl | simp) rfl (gl_one _ _ _ _) (by unfold maxLen; omega) (by omega) (by first | omega | (simp; omega) | simp) ?_; intro g cap w1 hown1 hg1)
                go_roundw
                case rel => exact ⟨k + 1, C ++ [⟨SN, Y, X, Z⟩], by omega, by go_num, HR.out, by rw [shG.vs_append, shG.vs_one1]; exact hown1, below_push hbase (Nat.le_refl _) hown hg1⟩
                case measure => simp [intOf]; omega
              · have g4 : 200 < (SN.size : Int) := by omega
                clear hf2 HR
                go_wp2_with fail
                go_ret2
                exact ⟨HBw.out.trans (hB.mono HBw.out.size), .inl rfl⟩
    · obtain rfl : k = l.length := by omega
      rw [List.take_length] at hC
      have hall := HB0.out.trans (hBr.mono HB0.out.size)
      clear hcell p0 p1 p2 p3
      go_wp2_with fail
      go_ret2
      exact ⟨hall, .inr ⟨.slice (some ⟨b, o, none⟩) (l.length + 1) cc0, C, rfl, hC, some ⟨b, o, none⟩, cc0, by rw [hCl], by rw [hCl]; exact own_mono hown HB0.out.size, hall⟩⟩
end Go.Proofs.YtjnhdimllllgaaaGreatDoor

namespace Go.Proofs.YtjnhdimllllgaaaGreatDoor
open Go.RowKit

theorem now_next {C : List Gl} (h : chF none C = 0) (hti : ∀ g ∈ C, 0 < g.ti) (t : Int) : (nowT C (t + 1)).of (t + 1) = (nowT C t).of (t + 1) := by
  obtain ⟨-, h2, -⟩ := chF_up h
  have hle := ixT_le (·.st) C (t + 1)
  have hmono : ixT (·.st) C t ≤ ixT (·.st) C (t + 1) := by
    rcases Nat.lt_or_ge (ixT (·.st) C (t + 1)) (ixT (·.st) C t) with h3 | h3
    · have h4 := ixT_le (·.st) C t
      have a := ixT_at (f := fun g : Gl => g.st) (l := C) (t := t + 1) (by omega)
      have b := ixT_lt (f := fun g : Gl => g.st) (l := C) (t := t) (j := ixT (fun g : Gl => g.st) C (t + 1)) (by omega) h3
      omega
    · exact h3
  have key : ∀ d k, k = ixT (·.st) C t + d → k ≤ ixT (·.st) C (t + 1) → (C.getD (k - 1) ⟨⟨#[]⟩, 0, 0, 0⟩).of (t + 1) = (nowT C t).of (t + 1) := by
    intro d
    induction d with
    | zero => rintro k rfl _; rfl
    | succ d ih =>
      rintro k rfl hk
      have hlt : ixT (·.st) C t + d < C.length := by omega
      have a := ixT_lt (f := fun g : Gl => g.st) (l := C) (t := t + 1) (j := ixT (fun g : Gl => g.st) C t + d) hlt (by omega)
      have b : t < C[ixT (fun g : Gl => g.st) C t + d].st := Int.lt_of_lt_of_le (ixT_at (f := fun g : Gl => g.st) (l := C) (t := t) (by omega)) (st_up h (i := ixT (fun g : Gl => g.st) C t) (j := ixT (fun g : Gl => g.st) C t + d) (by omega) hlt)
      have ih' := ih (ixT (fun g : Gl => g.st) C t + d) rfl (by omega)
      generalize hK : ixT (fun g : Gl => g.st) C t + d = K at *
      have e : ixT (fun g : Gl => g.st) C t + (d + 1) - 1 = K := by omega
      rw [e]
      rcases K with _ | j
      · exact ih'
      · rw [Nat.add_sub_cancel, getD_at (show j < C.length by omega)] at ih'
        rw [getD_at hlt, ← ih']
        have hs : C[j + 1].st = t + 1 := by omega
        have ht := hti _ (List.getElem_mem hlt)
        have hf := (h2 j hlt).2
        rw [hs] at hf
        rw [← hf]
        unfold Gl.of ofT
        rw [if_neg (by omega), if_pos (by omega)]
  exact key (ixT (·.st) C (t + 1) - ixT (·.st) C t) _ (by omega) (Nat.le_refl _)

theorem near_level {r : Rat} {v st ti t m : Int} (hi : InL r) (v0 : 0 ≤ v) (v1 : v ≤ 65535) (m0 : 0 < m) (hm : m ≤ ti) :
    (if lvR r v st ti t < lvR r v st ti (t + 1) then lvR r v st ti (t + 1) else lvR r v st ti t) - (if lvR r v st ti (t + 1) < lvR r v st ti t then lvR r v st ti (t + 1) else lvR r v st ti t) ≤ Rat.divInt 65535 m := by
  have hti : 0 < ti := by omega
  have d0 := way_up (st := st) (ti := ti) (s := t) (t := t + 1) (by omega) (by omega)
  have d1 := way_near (st := st) (t := t) hti
  have hm' := cast_le.2 hm
  have hp := cast_pos m0
  have k1 : (wayR st ti (t + 1) - wayR st ti t) * (m : Rat) ≤ 1 := by
    have := Rat.mul_le_mul_of_nonneg_left hm' (show (0 : Rat) ≤ wayR st ti (t + 1) - wayR st ti t by grind)
    exact Rat.le_trans this d1
  have k0 : 0 ≤ (wayR st ti (t + 1) - wayR st ti t) * (m : Rat) := Rat.mul_nonneg (by grind) (by grind)
  have e : (lvR r v st ti (t + 1) - lvR r v st ti t) * (m : Rat) = ((v : Rat) - r) * ((wayR st ti (t + 1) - wayR st ti t) * (m : Rat)) := by unfold lvR mixR; grind
  have c0 : (0 : Rat) ≤ (v : Rat) := cast_le.2 v0
  have c1 : (v : Rat) ≤ 65535 := cast_le.2 v1
  obtain ⟨i0, i1⟩ := hi
  generalize (wayR st ti (t + 1) - wayR st ti t) * (m : Rat) = k at *
  have p1 := Rat.mul_nonneg (a := 65535 - ((v : Rat) - r)) (b := k) (by grind) k0
  have p2 := Rat.mul_nonneg (a := 65535 + ((v : Rat) - r)) (b := k) (by grind) k0
  have hd := div_back (p := 65535) m0
  have c5 : ((65535 : Int) : Rat) = 65535 := rfl
  rw [c5] at hd
  refine le_mul hp ?_
  rw [hd]
  generalize lvR r v st ti (t + 1) = b at *
  generalize lvR r v st ti t = a at *
  split <;> split <;> grind
set_option maxRecDepth 100000 in
set_option maxHeartbeats 8000000 in
theorem gcont_walk (w : World) (s : ByteArray) (v st ti : Int) (A : Option Addr) (n c : Nat) (l : List Tn) (t : Int) (hl : shT.In w A n l) (hn : n ≤ 9223372036854775807) (hg : ∀ x ∈ l, x.good) (i0 : -9223372036854775808 ≤ ti) (t0 : -9223372036854775808 ≤ t) (t1 : t ≤ 9223372036854775807) (ht : Tab w) (hr : Rng w) :
    Calls Tryz.prog 11 #[.agg #[.string s, .int .i64 v, .int .i64 st, .int .i64 ti], .slice A n c, .int .i64 t] w fun e w' => e = .returned (.bool true) ∧ Below w.heap.size w w' := by
  obtain ⟨rfl, _⟩ := id hl
  have HAw := Lib.hid (fun w ht => tryglides_any w ht)
  have HF := Lib.hid (fun A c w hl => r3few_any A 1 c [⟨s, v, st, ti⟩] w hl (by decide))
  rw [fewG_one] at HF
  obtain ⟨W, hW⟩ : ∃ W, W = w.alloc (.cells #[.string s, .int .i64 v, .int .i64 st, .int .i64 ti] 24) := ⟨_, rfl⟩
  have hG := GBx.fresh w s v st ti
  have hB0 : Below w.heap.size w W := by rw [hW]; exact (Below.refl _ w).alloc (Nat.le_refl _) _
  rw [← hW] at hG
  have HP := Lib.hid hG.lt
  have HG := Lib.hid hG
  have HW := Lib.hid hW
  have HB0 := Lib.hid hB0
  have hB := Below.refl W.heap.size W
  obtain ⟨-, c0, c1, c2, c3⟩ := hG
  clear hW hB0
  have HT := Lib.hid (ht.below HB0.out)
  have HRg := Lib.hid (hr.below HB0.out)
  have HL := Lib.hid (hl.below HB0.out)
  have HsW := Lib.hid (show W.heap.size = w.heap.size + 1 by rw [HW.out]; simp)
  have Hg := Lib.hid hg
  clear ht hr hl hg
  by_cases hfew : s.size ≤ 120
  · rw [show decide ((⟨s, v, st, ti⟩ : Gl).s.size ≤ 120) = true from decide_eq_true hfew] at HF
    have hs1 : s.size ≤ 1000 := by omega
    have HC := Lib.hid (fun w => r3check_any s v st ti w hs1)
    by_cases herr : errG s.data.toList v st ti = 0
    · rw [herr] at HC
      by_cases h5 : l.length ≤ 5
      · have g5 : ¬ (5 : Int) < (l.length : Int) := by omega
        by_cases hti : ti = 0
        · have g6 : (ti == 0) = true := by simpa using hti
          clear hti
          go_enter Tryz.func11, Tryz.ntmps11
          go_wp2_with fail
          rw [← HW.out]
          go_wp2_with (first | (go_at_call 16; refine (HF.out _ _ _ (inOne _ _ _ HsW.out.symm ⟨s, v, st, ti⟩)).mono ?_; rintro e wk ⟨rfl, hb⟩; replace hB := (hB.alloc hB.size _).trans (hb.mono (hB.alloc hB.size _).size); clear hb; obtain ⟨-, c0, c1, c2, c3⟩ := HG.out.below HP.out hB) | (go_at_call 25; with_reducible refine (HC.out _).mono ?_; rintro e wk ⟨rfl, hb⟩; replace hB := hB.trans (hb.mono hB.size); clear hb; obtain ⟨-, c0, c1, c2, c3⟩ := HG.out.below HP.out hB) | (go_at_call 43; with_reducible refine (HAw.out _ (HT.out.below hB) (HRg.out.below hB)).mono ?_; rintro e wk ⟨rfl, hb⟩; replace hB := hB.trans (hb.mono hB.size); clear hb; obtain ⟨-, c0, c1, c2, c3⟩ := HG.out.below HP.out hB))
          go_ret
          exact ⟨rfl, HB0.out.trans (hB.mono HB0.out.size)⟩
        · have g6 : (ti == 0) = false := by simpa using hti
          by_cases ht0 : t < 0
          · skip
            go_enter Tryz.func11, Tryz.ntmps11
            go_wp2_with fail
            rw [← HW.out]
            go_wp2_with (first | (go_at_call 16; refine (HF.out _ _ _ (inOne _ _ _ HsW.out.symm ⟨s, v, st, ti⟩)).mono ?_; rintro e wk ⟨rfl, hb⟩; replace hB := (hB.alloc hB.size _).trans (hb.mono (hB.alloc hB.size _).size); clear hb; obtain ⟨-, c0, c1, c2, c3⟩ := HG.out.below HP.out hB) | (go_at_call 25; with_reducible refine (HC.out _).mono ?_; rintro e wk ⟨rfl, hb⟩; replace hB := hB.trans (hb.mono hB.size); clear hb; obtain ⟨-, c0, c1, c2, c3⟩ := HG.out.below HP.out hB) | (go_at_call 43; with_reducible refine (HAw.out _ (HT.out.below hB) (HRg.out.below hB)).mono ?_; rintro e wk ⟨rfl, hb⟩; replace hB := hB.trans (hb.mono hB.size); clear hb; obtain ⟨-, c0, c1, c2, c3⟩ := HG.out.below HP.out hB))
            go_ret
            exact ⟨rfl, HB0.out.trans (hB.mono HB0.out.size)⟩
          · by_cases ht1 : 10000000 < t
            · skip
              go_enter Tryz.func11, Tryz.ntmps11
              go_wp2_with fail
              rw [← HW.out]
              go_wp2_with (first | (go_at_call 16; refine (HF.out _ _ _ (inOne _ _ _ HsW.out.symm ⟨s, v, st, ti⟩)).mono ?_; rintro e wk ⟨rfl, hb⟩; replace hB := (hB.alloc hB.size _).trans (hb.mono (hB.alloc hB.size _).size); clear hb; obtain ⟨-, c0, c1, c2, c3⟩ := HG.out.below HP.out hB) | (go_at_call 25; with_reducible refine (HC.out _).mono ?_; rintro e wk ⟨rfl, hb⟩; replace hB := hB.trans (hb.mono hB.size); clear hb; obtain ⟨-, c0, c1, c2, c3⟩ := HG.out.below HP.out hB) | (go_at_call 43; with_reducible refine (HAw.out _ (HT.out.below hB) (HRg.out.below hB)).mono ?_; rintro e wk ⟨rfl, hb⟩; replace hB := hB.trans (hb.mono hB.size); clear hb; obtain ⟨-, c0, c1, c2, c3⟩ := HG.out.below HP.out hB))
              go_ret
              exact ⟨rfl, HB0.out.trans (hB.mono HB0.out.size)⟩
            · have HCh := Lib.hid (fun w hl ht => trychain_any w s v st ti A l.length c l hl h5 Hg.out (by omega) herr ht)
              have Hfe := Lib.hid (And.intro hfew herr)
              clear hfew herr hs1
              go_enter Tryz.func11, Tryz.ntmps11
              go_wp2_with fail
              rw [← HW.out]
              go_wp2_with (first | (go_at_call 16; refine (HF.out _ _ _ (inOne _ _ _ HsW.out.symm ⟨s, v, st, ti⟩)).mono ?_; rintro e wk ⟨rfl, hb⟩; replace hB := (hB.alloc hB.size _).trans (hb.mono (hB.alloc hB.size _).size); clear hb; obtain ⟨-, c0, c1, c2, c3⟩ := HG.out.below HP.out hB) | (go_at_call 25; with_reducible refine (HC.out _).mono ?_; rintro e wk ⟨rfl, hb⟩; replace hB := hB.trans (hb.mono hB.size); clear hb; obtain ⟨-, c0, c1, c2, c3⟩ := HG.out.below HP.out hB))
              have HBk := Lib.hid hB
              go_loopw [7, 50] (fun sv iv wr => ∃ (k : Nat) (m : Int), k ≤ l.length ∧ iv = .int .i64 k ∧ sv = .int .i64 m ∧ m ≤ ti ∧ -9223372036854775808 ≤ m ∧ (∀ j (h : j < l.length), j < k → m ≤ l[j].ti) ∧ Below wk.heap.size wk wr) (fun _ iv _ => l.length - (intOf iv).toNat)
              case atStart => exact ⟨0, ti, Nat.zero_le _, rfl, rfl, Int.le_refl _, i0, fun _ _ h => absurd h (by omega), Below.refl _ _⟩
              case round =>
                obtain ⟨k, m, hk, rfl, rfl, hm, hm0, hmin, hBr⟩ := hrel
                have hB := HBk.out.trans (hBr.mono HBk.out.size)
                by_cases hlt : k < l.length
                · obtain ⟨bt, ot, rfl, hbt, hct⟩ := tn_at HL.out (by omega)
                  obtain ⟨q0, q1, q2⟩ := three_keep hbt (hct k hlt) hB
                  have hgd := (Hg.out _ (List.getElem_mem hlt)).2.2
                  have HMn := Lib.hid (fun (m' : Int) (h1 : m' ≤ m) (h2 : m' ≤ l[k].ti) => (show ∀ j (h : j < l.length), j < k + 1 → m' ≤ l[j].ti from fun j h h3 => by
                    by_cases h4 : j < k
                    · exact Int.le_trans h1 (hmin j h h4)
                    · obtain rfl : j = k := by omega
                      exact h2))
                  clear hct hmin hB
                  generalize l[k].ti = Z at *
                  generalize l[k].lv = Y at *
                  generalize l[k].at_ = X at *
                  have HBr := Lib.hid hBr
                  clear hBr
                  obtain ⟨g0, g1⟩ := hgd
                  go_wp2
                  go_roundw
                  case rel => exact ⟨k + 1, _, by omega, by go_num, rfl, by omega, by omega, HMn.out _ (by omega) (by omega), HBr.out.alloc HBr.out.size _⟩
                  case measure => simp [intOf]; omega
                · obtain rfl : k = l.length := by omega
                  have HBr := Lib.hid hBr
                  have HMin := Lib.hid hmin
                  clear hBr hmin
                  obtain ⟨-, c0, c1, c2, c3⟩ := HG.out.below HP.out hB
                  by_cases hm1 : m < 1
                  · go_wp2_with (go_at_call 43; with_reducible refine (HAw.out _ (HT.out.below hB) (HRg.out.below hB)).mono ?_; rintro e wk ⟨rfl, hb⟩; replace hB := hB.trans (hb.mono hB.size); clear hb; obtain ⟨-, c0, c1, c2, c3⟩ := HG.out.below HP.out hB)
                    go_ret
                    exact ⟨rfl, HB0.out.trans (hB.mono HB0.out.size)⟩
                  · go_wp2_with fail
                    refine (HCh.out _ (HL.out.below hB) (HT.out.below hB)).mono ?_
                    rintro e w1 ⟨hb, rfl | ⟨r, C, rfl, hC, A1, cc1, rfl, hown, -⟩⟩
                    · replace hB := hB.trans (hb.mono hB.size)
                      clear hb
                      obtain ⟨-, c0, c1, c2, c3⟩ := HG.out.below HP.out hB
                      go_wp2_with (go_at_call 43; with_reducible refine (HAw.out _ (HT.out.below hB) (HRg.out.below hB)).mono ?_; rintro e wk ⟨rfl, hb⟩; replace hB := hB.trans (hb.mono hB.size); clear hb; obtain ⟨-, c0, c1, c2, c3⟩ := HG.out.below HP.out hB)
                      go_ret
                      exact ⟨rfl, HB0.out.trans (hB.mono HB0.out.size)⟩
                    · replace hB := hB.trans (hb.mono hB.size)
                      have HBw := Lib.hid (HB0.out.trans (hB.mono HB0.out.size))
                      have HI := Lib.hid (show shG.In w1 A1 C.length C from Sh.In.of_own hown rfl)
                      replace HT := Lib.hid (HT.out.below hB)
                      replace HRg := Lib.hid (HRg.out.below hB)
                      have hCl := hC.len
                      have hsz : ∀ g ∈ C, g.s.size ≤ 1000 := fun g hg => Nat.le_trans (hC.sz g hg) (by decide)
                      have hc0 : chT C = 0 := by unfold chT; rw [if_neg (by omega)]; exact hC.ok
                      have he0 : errV C = 0 := by unfold errV; rw [hc0, if_neg (by decide), if_neg (by omega)]
                      have hmt : ∀ g ∈ C, m ≤ g.ti := fun g hg => by
                        obtain ⟨i, hi, rfl⟩ := List.getElem_of_mem hg
                        rcases i with _ | i
                        · have e := hC.hd
                          rw [List.getElem?_eq_getElem hi] at e
                          rw [Option.some.inj e]; exact hm
                        · obtain ⟨S, e⟩ := hC.nx i (by omega)
                          rw [List.getElem?_eq_getElem hi] at e
                          rw [Option.some.inj e]; exact HMin.out i (by omega) (by omega)
                      have hnow : nowT C t ∈ C := by
                        have := ixT_le (·.st) C t
                        unfold nowT
                        rw [getD_at (by omega)]
                        exact List.getElem_mem _
                      obtain ⟨q, hq, _, hqi, v0, v1, s0, s1, j0, j1, hof⟩ := Gl.right ((chF_up hC.ok).1 _ hnow) (hsz _ hnow)
                      have hqz : SzR 200 q := size_SzR hq (hC.sz _ hnow) (by decide)
                      have hne := now_next hC.ok (fun g hg => by have := hmt g hg; omega) t
                      have hmx := hmt _ hnow
                      have e1 : valL C t = sR (lvR q (nowT C t).v (nowT C t).st (nowT C t).ti t) := by unfold valL; rw [he0, if_neg (by decide), hof]
                      have e2 : valL C (t + 1) = sR (lvR q (nowT C t).v (nowT C t).st (nowT C t).ti (t + 1)) := by unfold valL; rw [he0, if_neg (by decide), hne, hof]
                      have hV1 := fun w hl ht => gvalue_any A1 C.length cc1 C t w hl (by omega) (fun _ => hsz) t0 t1 ht
                      have hV2 := fun w hl ht => gvalue_any A1 C.length cc1 C (t + 1) w hl (by omega) (fun _ => hsz) (by omega) (by omega) ht
                      rw [e1, he0] at hV1
                      rw [e2, he0] at hV2
                      have hnl := near_level (r := q) (st := (nowT C t).st) (t := t) hqi v0 v1 (show 0 < m by omega) hmx
                      have hzA : SzR (200 + (5 + 200 + 1 + 8) + 1) (lvR q (nowT C t).v (nowT C t).st (nowT C t).ti t) := lv_sz hqz v0 v1 j0 j1
                      have hzB : SzR (200 + (5 + 200 + 1 + 8) + 1) (lvR q (nowT C t).v (nowT C t).st (nowT C t).ti (t + 1)) := lv_sz hqz v0 v1 j0 j1
                      have hIA : InL (lvR q (nowT C t).v (nowT C t).st (nowT C t).ti t) := lv_in j0 hqi v0 v1
                      have hIB : InL (lvR q (nowT C t).v (nowT C t).st (nowT C t).ti (t + 1)) := lv_in j0 hqi v0 v1
                      generalize lvR q (nowT C t).v (nowT C t).st (nowT C t).ti t = x at *
                      generalize lvR q (nowT C t).v (nowT C t).st (nowT C t).ti (t + 1) = y at *
                      have hlA := fun w => r3level_any (sR x) w (Nat.le_trans hzA.len (by decide))
                      have hlB := fun w => r3level_any (sR y) w (Nat.le_trans hzB.len (by decide))
                      rw [errLv_of hzA (by decide) hIA] at hlA
                      rw [errLv_of hzB (by decide) hIB] at hlB
                      have hlo := fun w => sleast_fit hzA hzB w (by decide) (by decide)
                      have hhi := fun w => smost_fit hzA hzB w (by decide) (by decide)
                      have hzl : SzR (200 + (5 + 200 + 1 + 8) + 1) (if y < x then y else x) := by split <;> assumption
                      have hzh : SzR (200 + (5 + 200 + 1 + 8) + 1) (if x < y then y else x) := by split <;> assumption
                      have hzo : SzR 8 (Rat.divInt 65535 m) := SzR.red (by omega) (by omega) (by omega)
                      generalize (if y < x then y else x) = lo at *
                      generalize (if x < y then y else x) = hi at *
                      have hMi := fun w => sminus_fit hzh hzl w (by decide) (by decide)
                      have hOv := fun w => sover_fit (x := 65535) (y := m) (by omega) (by omega) (by omega) (by omega) (by omega) w
                      have hOr := fun w => sorder_fit (hzh.sub hzl) hzo w (by decide) (by decide)
                      have ho := ord_le hnl
                      generalize ordR (hi - lo) (Rat.divInt 65535 m) = oo at *
                      generalize sR (Rat.divInt 65535 m) = SO at *
                      generalize sR (hi - lo) = SD at *
                      generalize sR hi = SH at *
                      generalize sR lo = SL at *
                      generalize sR x = SX at *
                      generalize sR y = SY at *
                      have HV1 := Lib.hid hV1
                      have HV2 := Lib.hid hV2
                      have HlA := Lib.hid hlA
                      have HlB := Lib.hid hlB
                      have Hlo := Lib.hid hlo
                      have Hhi := Lib.hid hhi
                      have HMi := Lib.hid hMi
                      have HOv := Lib.hid hOv
                      have HOr := Lib.hid hOr
                      have wq : IntKind.i64.wrap (t + 1) = t + 1 := IntWalk.i64_in _ (by omega)
                      have hB1 := Below.refl w1.heap.size w1
                      clear hCl hb hB hown hC hV1 hV2 hlA hlB hlo hhi hMi hOv hOr hnl hzA hzB hIA hIB hzl hzh hzo e1 e2 hne hmx hof hq hqi hqz hnow hmt hsz hc0 he0 c0 c1 c2 c3
                      have hB := hB1
                      clear hB1
                      go_wp2_with (first | (go_at_call 17; with_reducible refine (HV1.out _ (HI.out.below hB) (HT.out.below hB)).mono ?_; rintro e wk ⟨rfl, hb⟩; replace hB := hB.trans (hb.mono hB.size); clear hb) | (go_at_call 17; with_reducible refine (HV2.out _ (HI.out.below hB) (HT.out.below hB)).mono ?_; rintro e wk ⟨rfl, hb⟩; replace hB := hB.trans (hb.mono hB.size); clear hb) | (go_at_call 31; with_reducible refine (HlA.out _).mono ?_; rintro e wk ⟨rfl, hb⟩; replace hB := hB.trans (hb.mono hB.size); clear hb) | (go_at_call 31; with_reducible refine (HlB.out _).mono ?_; rintro e wk ⟨rfl, hb⟩; replace hB := hB.trans (hb.mono hB.size); clear hb) | (go_at_call 49; with_reducible refine (Hlo.out _).mono ?_; rintro e wk ⟨rfl, hb⟩; replace hB := hB.trans (hb.mono hB.size); clear hb) | (go_at_call 50; with_reducible refine (Hhi.out _).mono ?_; rintro e wk ⟨rfl, hb⟩; replace hB := hB.trans (hb.mono hB.size); clear hb) | (go_at_call 46; with_reducible refine (HMi.out _).mono ?_; rintro e wk ⟨rfl, hb⟩; replace hB := hB.trans (hb.mono hB.size); clear hb) | (go_at_call 51; with_reducible refine (HOv.out _).mono ?_; rintro e wk ⟨rfl, hb⟩; replace hB := hB.trans (hb.mono hB.size); clear hb) | (go_at_call 33; with_reducible refine (HOr.out _).mono ?_; rintro e wk ⟨rfl, hb⟩; replace hB := hB.trans (hb.mono hB.size); clear hb) | (go_at_call 43; with_reducible refine (HAw.out _ (HT.out.below hB) (HRg.out.below hB)).mono ?_; rintro e wk ⟨rfl, hb⟩; replace hB := hB.trans (hb.mono hB.size); clear hb))
                      go_ret
                      exact ⟨rfl, HBw.out.trans (hB.mono HBw.out.size)⟩
      · have g5 : (5 : Int) < (l.length : Int) := by omega
        go_enter Tryz.func11, Tryz.ntmps11
        go_wp2_with fail
        rw [← HW.out]
        go_wp2_with (first | (go_at_call 16; refine (HF.out _ _ _ (inOne _ _ _ HsW.out.symm ⟨s, v, st, ti⟩)).mono ?_; rintro e wk ⟨rfl, hb⟩; replace hB := (hB.alloc hB.size _).trans (hb.mono (hB.alloc hB.size _).size); clear hb; obtain ⟨-, c0, c1, c2, c3⟩ := HG.out.below HP.out hB) | (go_at_call 25; with_reducible refine (HC.out _).mono ?_; rintro e wk ⟨rfl, hb⟩; replace hB := hB.trans (hb.mono hB.size); clear hb; obtain ⟨-, c0, c1, c2, c3⟩ := HG.out.below HP.out hB) | (go_at_call 43; with_reducible refine (HAw.out _ (HT.out.below hB) (HRg.out.below hB)).mono ?_; rintro e wk ⟨rfl, hb⟩; replace hB := hB.trans (hb.mono hB.size); clear hb; obtain ⟨-, c0, c1, c2, c3⟩ := HG.out.below HP.out hB))
        go_ret
        exact ⟨rfl, HB0.out.trans (hB.mono HB0.out.size)⟩
    · generalize errG s.data.toList v st ti = k at *
      have g1 : (k == 0) = false := by simpa using herr
      have g2 : (k != 0) = true := by simpa using herr
      go_enter Tryz.func11, Tryz.ntmps11
      go_wp2_with fail
      rw [← HW.out]
      go_wp2_with (first | (go_at_call 16; refine (HF.out _ _ _ (inOne _ _ _ HsW.out.symm ⟨s, v, st, ti⟩)).mono ?_; rintro e wk ⟨rfl, hb⟩; replace hB := (hB.alloc hB.size _).trans (hb.mono (hB.alloc hB.size _).size); clear hb; obtain ⟨-, c0, c1, c2, c3⟩ := HG.out.below HP.out hB) | (go_at_call 25; with_reducible refine (HC.out _).mono ?_; rintro e wk ⟨rfl, hb⟩; replace hB := hB.trans (hb.mono hB.size); clear hb; obtain ⟨-, c0, c1, c2, c3⟩ := HG.out.below HP.out hB) | (go_at_call 43; with_reducible refine (HAw.out _ (HT.out.below hB) (HRg.out.below hB)).mono ?_; rintro e wk ⟨rfl, hb⟩; replace hB := hB.trans (hb.mono hB.size); clear hb; obtain ⟨-, c0, c1, c2, c3⟩ := HG.out.below HP.out hB))
      go_ret
      exact ⟨rfl, HB0.out.trans (hB.mono HB0.out.size)⟩
  · rw [show decide ((⟨s, v, st, ti⟩ : Gl).s.size ≤ 120) = false from decide_eq_false hfew] at HF
    go_enter Tryz.func11, Tryz.ntmps11
    go_wp2_with fail
    rw [← HW.out]
    go_wp2_with (first | (go_at_call 16; refine (HF.out _ _ _ (inOne _ _ _ HsW.out.symm ⟨s, v, st, ti⟩)).mono ?_; rintro e wk ⟨rfl, hb⟩; replace hB := (hB.alloc hB.size _).trans (hb.mono (hB.alloc hB.size _).size); clear hb; obtain ⟨-, c0, c1, c2, c3⟩ := HG.out.below HP.out hB) | (go_at_call 43; with_reducible refine (HAw.out _ (HT.out.below hB) (HRg.out.below hB)).mono ?_; rintro e wk ⟨rfl, hb⟩; replace hB := hB.trans (hb.mono hB.size); clear hb; obtain ⟨-, c0, c1, c2, c3⟩ := HG.out.below HP.out hB))
    go_ret
    exact ⟨rfl, HB0.out.trans (hB.mono HB0.out.size)⟩
theorem top_cont (w : World) (g : Gl) (hgd : g.good) (A : Option Addr) (n c : Nat) (l : List Tn) (hl : shT.In w A n l) (hg : ∀ x ∈ l, x.good) (hn : n ≤ maxLen) (x : Int) (hx : (Lit.int .i64 x).wf = true) (hL : Laid w) :
    Calls Tryz.prog 11 #[.agg (shG.cs g).toArray, .slice A n c, .int .i64 x] w fun e w' => e = .returned (.bool true) ∧ Below w.heap.size w w' :=
  gcont_walk w g.s g.v g.st g.ti A n c l x hl (by unfold maxLen at hn; omega) hg hgd.2.2.2.1 (int_bd hx).1 (int_bd hx).2 hL.1 hL.2
end Go.Proofs.YtjnhdimllllgaaaGreatDoor

namespace Go.Proofs.YtjnhdimllllgaaaGreatDoor
open Go.RowKit

theorem arrive_level {C : List Gl} (h : chF none C = 0) (hs : ∀ g ∈ C, g.s.size ≤ 1000) {i : Nat} (hi : i + 1 = C.length) : (nowT C ((C[i]'(by omega)).st + (C[i]'(by omega)).ti)).of ((C[i]'(by omega)).st + (C[i]'(by omega)).ti) = sR ((C[i]'(by omega)).v : Rat) := by
  have hlt : i < C.length := by omega
  obtain ⟨r, hr, _, _, _, _, _, _, i0, _, hof⟩ := Gl.right ((chF_up h).1 _ (List.getElem_mem hlt)) (hs _ (List.getElem_mem hlt))
  rw [now_at h hlt (by omega) (fun h => absurd h (by omega)), hof, lv_end (Int.le_refl _)]
theorem infoTn : (Tryz.prog.info? 81).map (fun i => (i.zero, i.size, i.bytes)) = some (some (.agg #[.int .i64 0, .int .i64 0, .int .i64 0]), 3, 24) := by kernel_rfl
set_option maxRecDepth 100000 in
set_option maxHeartbeats 4000000 in

theorem clone_tn (A : Option Addr) (n c : Nat) (l : List Tn) (w : World) (hl : shT.In w A n l) (hn : n ≤ 5) :
    Calls Tryz.prog 54 #[.slice A n c] w fun e w' => ∃ v', e = .returned v' ∧ w'.ownsRow w.heap.size 81 3 v' n (shT.vs l) ∧ Below w.heap.size w w' := by
  obtain ⟨i0, hi, hz0, hzz1, hz2⟩ := info_parts infoTn
  have q22 : ∀ (w : World) (a : Option Addr) (n c n' c' : Nat), (binOp .eql 80 (.slice a n c) (.slice none n' c')).run Tryz.prog w = .ok (.bool a.isNone) w := fun w a n c n' c' => Lib.run_eql_slice_nil w _ _ a n c n' c' Tryz.underlying80
  cases A with
  | none =>
    obtain rfl : l = [] := by
      match l, hl with
      | [], _ => rfl
      | a :: t, hl => obtain ⟨b, o, e, _⟩ := hl.at_ (by simp); cases e
    obtain ⟨rfl, _⟩ := hl
    clear hi hz0 hzz1 hz2
    go_enter Tryz.func54, Tryz.ntmps54
    go_wp2
    go_ret
    exact ⟨_, rfl, World.ownsRow_nil _ _ _ _, Below.refl _ _⟩
  | some a =>
    have hlen : (shT.vs l).length = n * 3 := by rw [shT.vs_length, ← hl.1]; rfl
    have hnews : Hid (∀ j u, (shT.vs l)[j]? = some u → w.cell? (a.add j) = some u) := Lib.hid (fun j u hu => by
      have hlt : j < (shT.vs l).length := (List.getElem?_eq_some_iff.1 hu).1
      obtain ⟨b, o, e, hb, hc⟩ := hl.2.2 (by omega)
      injection e with e
      subst e
      have := hc j u hu
      rwa [show ((⟨b, o, none⟩ : Addr).add j) = ⟨b, o + j, none⟩ by unfold Addr.add; split <;> simp_all])
    have hone := shT.vs_one l
    generalize shT.vs l = L at *
    clear hl
    go_enter Tryz.func54, Tryz.ntmps54
    go_wp2_with (at_builtin; refine wpList_append_own _ rfl _ _ 80 rfl w.heap.size 81 i0 _ 3 24 Tryz.underlying80 hi hz0 hzz1 hz2 rfl (by decide) _ _ _ rfl (World.ownsRow_made w #[] 0 (Nat.le_refl _) (Nat.zero_le _) (by simp)) a n c L rfl hlen (fun j u hj => Lib.cell?_alloc_some _ (hnews.out j u hj)) hone (by unfold maxLen; omega) (by omega) (by simp) ?_)
    intro v' w1 hown hgrow hnil
    clear hnil
    go_wp2
    go_ret
    refine ⟨v', rfl, by simpa using hown, ?_⟩
    exact ((Below.refl _ w).alloc (Nat.le_refl _) _).grown hgrow (by simp) (by intro k hk; simp [Value.ownBlock] at hk; omega)
theorem vs_last (l : List Tn) (x y z y' : Int) : (shT.vs (l ++ [⟨x, y, z⟩])).set (l.length * 3 + 1) (.int .i64 y') = shT.vs (l ++ [⟨x, y', z⟩]) := by
  have hl := shT.vs_length l
  rw [shT.vs_append, shT.vs_append, shT.vs_one1, shT.vs_one1, List.set_append_right (l.length * 3 + 1) _ (by rw [hl]; show l.length * 3 ≤ _; omega), hl, show l.length * 3 + 1 - l.length * shT.z = 1 by show l.length * 3 + 1 - l.length * 3 = 1; omega]
  rfl
set_option maxRecDepth 100000 in
set_option maxHeartbeats 8000000 in
theorem garrive_walk (w : World) (s : ByteArray) (v st ti : Int) (A : Option Addr) (n c : Nat) (l : List Tn) (p : Int) (hl : shT.In w A n l) (hn : n ≤ 9223372036854775807) (hg : ∀ x ∈ l, x.good) (p0 : 0 ≤ p) (p1 : p ≤ 65535) (ht : Tab w) (hr : Rng w) :
    Calls Tryz.prog 12 #[.agg #[.string s, .int .i64 v, .int .i64 st, .int .i64 ti], .slice A n c, .int .u16 p] w fun e w' => e = .returned (.bool true) ∧ Below w.heap.size w w' := by
  obtain ⟨rfl, _⟩ := id hl
  have HAw := Lib.hid (fun w ht => tryglides_any w ht)
  have HF := Lib.hid (fun A c w hl => r3few_any A 1 c [⟨s, v, st, ti⟩] w hl (by decide))
  rw [fewG_one] at HF
  obtain ⟨W, hW⟩ : ∃ W, W = w.alloc (.cells #[.string s, .int .i64 v, .int .i64 st, .int .i64 ti] 24) := ⟨_, rfl⟩
  have hG := GBx.fresh w s v st ti
  have hB0 : Below w.heap.size w W := by rw [hW]; exact (Below.refl _ w).alloc (Nat.le_refl _) _
  rw [← hW] at hG
  have HP := Lib.hid hG.lt
  have HG := Lib.hid hG
  have HW := Lib.hid hW
  have HB0 := Lib.hid hB0
  have hB := Below.refl W.heap.size W
  obtain ⟨-, c0, c1, c2, c3⟩ := hG
  clear hW hB0
  have HT := Lib.hid (ht.below HB0.out)
  have HRg := Lib.hid (hr.below HB0.out)
  have HL := Lib.hid (hl.below HB0.out)
  have HsW := Lib.hid (show W.heap.size = w.heap.size + 1 by rw [HW.out]; simp)
  have Hg := Lib.hid hg
  clear ht hr hl hg
  by_cases hfew : s.size ≤ 120
  · rw [show decide ((⟨s, v, st, ti⟩ : Gl).s.size ≤ 120) = true from decide_eq_true hfew] at HF
    have hs1 : s.size ≤ 1000 := by omega
    have HC := Lib.hid (fun w => r3check_any s v st ti w hs1)
    by_cases herr : errG s.data.toList v st ti = 0
    · rw [herr] at HC
      by_cases h5 : l.length ≤ 5
      · have g5 : ¬ (5 : Int) < (l.length : Int) := by omega
        have hlen := namedT_len p0 p1
        have HX := Lib.hid (fun w h => vtext_ok p w h p0 p1)
        have hP := fun w => vpercent_any ⟨(namedT p).toArray⟩ w (by rw [← bytes_len]; show (namedT p).length ≤ _; omega)
        rw [show (⟨(namedT p).toArray⟩ : ByteArray).data.toList = namedT p from rfl, pct_named p0 p1] at hP
        have HP2 := Lib.hid hP
        generalize (⟨(namedT p).toArray⟩ : ByteArray) = Z at *
        have HCl := Lib.hid (fun w hl => clone_tn A l.length c l w hl h5)
        have Hfe := Lib.hid (And.intro hfew herr)
        clear hP hlen hfew herr hs1
        rcases List.eq_nil_or_concat l with rfl | ⟨l0, x, rfl⟩
        · have HCh := Lib.hid (fun A c w hl ht => trychain_any w s v st ti A 0 c [] hl (by decide) (by simp) (by have := Hfe.out.1; omega) Hfe.out.2 ht)
          go_enter Tryz.func12, Tryz.ntmps12
          go_wp2_with fail
          rw [← HW.out]
          go_wp2_with (first | (go_at_call 16; refine (HF.out _ _ _ (inOne _ _ _ HsW.out.symm ⟨s, v, st, ti⟩)).mono ?_; rintro e wk ⟨rfl, hb⟩; replace hB := (hB.alloc hB.size _).trans (hb.mono (hB.alloc hB.size _).size); clear hb; obtain ⟨-, c0, c1, c2, c3⟩ := HG.out.below HP.out hB) | (go_at_call 25; with_reducible refine (HC.out _).mono ?_; rintro e wk ⟨rfl, hb⟩; replace hB := hB.trans (hb.mono hB.size); clear hb; obtain ⟨-, c0, c1, c2, c3⟩ := HG.out.below HP.out hB) | (go_at_call 52; with_reducible refine (HX.out _ (HT.out.below hB)).mono ?_; rintro e wk ⟨rfl, hb⟩; replace hB := hB.trans (hb.mono hB.size); clear hb; obtain ⟨-, c0, c1, c2, c3⟩ := HG.out.below HP.out hB) | (go_at_call 53; with_reducible refine (HP2.out _).mono ?_; rintro e wk ⟨rfl, hb⟩; replace hB := hB.trans (hb.mono hB.size); clear hb; obtain ⟨-, c0, c1, c2, c3⟩ := HG.out.below HP.out hB))
          refine (HCl.out _ (HL.out.below hB)).mono ?_
          rintro e w1 ⟨v', rfl, hown, hb⟩
          obtain ⟨A1, c1, rfl⟩ := own_form hown
          have hi1 : shT.In w1 A1 0 [] := Sh.In.nil _ _
          replace hB := hB.trans (hb.mono hB.size)
          obtain ⟨-, c0, c1, c2, c3⟩ := HG.out.below HP.out hB
          clear hb hown
          go_wp2_with fail
          refine (HCh.out _ _ _ hi1 (HT.out.below hB)).mono ?_
          rintro e w2 ⟨hb, rfl | ⟨r, C, rfl, -⟩⟩
          all_goals
            replace hB := hB.trans (hb.mono hB.size)
            obtain ⟨-, c0, c1, c2, c3⟩ := HG.out.below HP.out hB
            clear hb
            go_wp2_with (go_at_call 43; with_reducible refine (HAw.out _ (HT.out.below hB) (HRg.out.below hB)).mono ?_; rintro e wk ⟨rfl, hb⟩; replace hB := hB.trans (hb.mono hB.size); clear hb; obtain ⟨-, c0, c1, c2, c3⟩ := HG.out.below HP.out hB)
            go_ret
            exact ⟨rfl, HB0.out.trans (hB.mono HB0.out.size)⟩
        · rw [List.concat_eq_append] at *
          obtain ⟨X, Y, I⟩ := x
          have hl0 : (l0 ++ [(⟨X, Y, I⟩ : Tn)]).length = l0.length + 1 := by simp
          have HV := Lib.hid (vs_last l0 X Y I p)
          have hgood : ∀ x ∈ l0 ++ [(⟨X, p, I⟩ : Tn)], x.good := fun x hx => by
            rcases List.mem_append.1 hx with h | h
            · exact Hg.out x (List.mem_append.2 (.inl h))
            · obtain rfl := List.mem_singleton.1 h
              obtain ⟨a, -, b⟩ := Hg.out ⟨X, Y, I⟩ (List.mem_append.2 (.inr (List.mem_singleton.2 rfl)))
              exact ⟨a, ⟨by show _ ≤ p; omega, by show p ≤ _; omega⟩, b⟩
          have HCh := Lib.hid (fun A c w hl ht => trychain_any w s v st ti A (l0.length + 1) c (l0 ++ [⟨X, p, I⟩]) hl (by omega) hgood (by have := Hfe.out.1; omega) Hfe.out.2 ht)
          clear hgood
          rw [hl0] at HCl HL g5 ⊢
          go_enter Tryz.func12, Tryz.ntmps12
          go_wp2_with fail
          rw [← HW.out]
          go_wp2_with (first | (go_at_call 16; refine (HF.out _ _ _ (inOne _ _ _ HsW.out.symm ⟨s, v, st, ti⟩)).mono ?_; rintro e wk ⟨rfl, hb⟩; replace hB := (hB.alloc hB.size _).trans (hb.mono (hB.alloc hB.size _).size); clear hb; obtain ⟨-, c0, c1, c2, c3⟩ := HG.out.below HP.out hB) | (go_at_call 25; with_reducible refine (HC.out _).mono ?_; rintro e wk ⟨rfl, hb⟩; replace hB := hB.trans (hb.mono hB.size); clear hb; obtain ⟨-, c0, c1, c2, c3⟩ := HG.out.below HP.out hB) | (go_at_call 52; with_reducible refine (HX.out _ (HT.out.below hB)).mono ?_; rintro e wk ⟨rfl, hb⟩; replace hB := hB.trans (hb.mono hB.size); clear hb; obtain ⟨-, c0, c1, c2, c3⟩ := HG.out.below HP.out hB) | (go_at_call 53; with_reducible refine (HP2.out _).mono ?_; rintro e wk ⟨rfl, hb⟩; replace hB := hB.trans (hb.mono hB.size); clear hb; obtain ⟨-, c0, c1, c2, c3⟩ := HG.out.below HP.out hB))
          refine (HCl.out _ (HL.out.below hB)).mono ?_
          rintro e w1 ⟨v', rfl, hown, hb⟩
          obtain ⟨g, cap, rfl, hgb⟩ : ∃ g cap, v' = .slice (some ⟨g, 0, none⟩) (l0.length + 1) cap ∧ wk.heap.size ≤ g := by
            rcases hown.2 with ⟨-, h⟩ | ⟨g, cap, cur, h, h2, -⟩
            · omega
            · exact ⟨g, cap, h, h2⟩
          have hcell := hown.cellAt (l0.length * 3 + 1) (by omega)
          have hlv := shT.vs_length l0
          rw [shT.vs_append, List.getElem?_append_right (by rw [hlv]; show l0.length * 3 ≤ _; omega), hlv, show l0.length * 3 + 1 - l0.length * shT.z = 1 by show l0.length * 3 + 1 - l0.length * 3 = 1; omega] at hcell
          have hcell : w1.cell? ⟨g, l0.length * 3 + 1, none⟩ = some (.int .i64 Y) := hcell
          have hfr := hown.frozenAt (l0.length * 3 + 1)
          have hst := hown.stored (l0.length * 3 + 1) (.int .i64 p)
          rw [HV.out] at hst
          have hi1 : shT.In (w1.setCell ⟨g, l0.length * 3 + 1, none⟩ (.int .i64 p)) (some ⟨g, 0, none⟩) (l0.length + 1) (l0 ++ [⟨X, p, I⟩]) := Sh.In.of_own hst.1 (by simp)
          replace hB := (hB.trans (hb.mono hB.size)).setCell (p := ⟨g, l0.length * 3 + 1, none⟩) (Nat.le_trans hB.size hgb) (.int .i64 p)
          have HI1 := Lib.hid hi1
          have HB1 := Lib.hid hB
          have hB1 := hb
          clear hst hi1 hlv hown hgb hb hB
          have k0 : 0 < (l0.length : Int) + 1 := by omega
          have k1 : IntKind.i64.wrap ((l0.length : Int) + 1 - 1) = (l0.length : Int) := by rw [Int.add_sub_cancel]; exact IntWalk.i64_in _ (by omega)
          have k2 : (0 : Int) ≤ (l0.length : Int) := by omega
          have k3 : (l0.length : Int) < (l0.length : Int) + 1 := by omega
          have k4 : ((l0.length : Int) + 1 == 0) = false := by rw [beq_eq_false_iff_ne]; omega
          have k5 : IntKind.i64.wrap (l0.length : Int) = (l0.length : Int) := IntWalk.i64_in _ (by omega)
          have k6 : IntKind.i64.wrap p = p := IntWalk.i64_in _ (by omega)
          clear hB1
          obtain ⟨-, d0, d1, d2, d3⟩ := HG.out.below HP.out HB1.out
          go_wp2_with fail
          have hBx := HB1.out
          generalize w1.setCell ⟨g, l0.length * 3 + 1, none⟩ (.int .i64 p) = w9 at *
          refine (HCh.out _ _ _ HI1.out (HT.out.below hBx)).mono ?_
          rintro e w2 ⟨hb, rfl | ⟨r, C, rfl, hC, A2, cc2, rfl, hown, -⟩⟩
          · have hB := hBx.trans (hb.mono hBx.size)
            obtain ⟨-, c0, c1, c2, c3⟩ := HG.out.below HP.out hB
            clear hb hBx
            go_wp2_with (go_at_call 43; with_reducible refine (HAw.out _ (HT.out.below hB) (HRg.out.below hB)).mono ?_; rintro e wk ⟨rfl, hb⟩; replace hB := hB.trans (hb.mono hB.size); clear hb; obtain ⟨-, c0, c1, c2, c3⟩ := HG.out.below HP.out hB)
            go_ret
            exact ⟨rfl, HB0.out.trans (hB.mono HB0.out.size)⟩
          · have hB := hBx.trans (hb.mono hBx.size)
            have HBw := Lib.hid (HB0.out.trans (hB.mono HB0.out.size))
            have hi2 : shG.In w2 A2 C.length C := Sh.In.of_own hown rfl
            replace HT := Lib.hid (HT.out.below hB)
            replace HRg := Lib.hid (HRg.out.below hB)
            have hCl := hC.len
            have hCl2 : C.length = l0.length + 2 := by rw [hCl]; simp
            have hsz : ∀ g ∈ C, g.s.size ≤ 1000 := fun g hg => Nat.le_trans (hC.sz g hg) (by decide)
            have hc0 : chT C = 0 := by unfold chT; rw [if_neg (by omega)]; exact hC.ok
            have he0 : errV C = 0 := by unfold errV; rw [hc0, if_neg (by decide), if_neg (by omega)]
            obtain ⟨S, e0⟩ := hC.nx l0.length (by simp)
            have hlt : l0.length + 1 < C.length := by omega
            rw [List.getElem?_eq_getElem hlt] at e0
            have e : C[l0.length + 1] = ⟨S, p, X, I⟩ := by rw [Option.some.inj e0]; simp
            have ha := arrive_level hC.ok hsz (i := l0.length + 1) (by omega)
            obtain ⟨-, -, -, -, -, -, s0, s1, j0, j1, -⟩ := Gl.right ((chF_up hC.ok).1 _ (List.getElem_mem hlt)) (hsz _ (List.getElem_mem hlt))
            obtain ⟨bC, oC, rfl, hbC, hcC⟩ := gl_at hi2 (by omega)
            obtain ⟨q0, q1, q2, q3⟩ := hcC _ hlt
            rw [e] at ha q0 q1 q2 q3 s0 s1 j0 j1
            dsimp only at ha q0 q1 q2 q3 s0 s1 j0 j1
            have hV := fun w hl ht => gvalue_any (some ⟨bC, oC, none⟩) C.length cc2 C (X + I) w hl (by omega) (fun _ => hsz) (by omega) (by omega) ht
            have e1 : valL C (X + I) = sR ((p : Int) : Rat) := by unfold valL; rw [he0, if_neg (by decide), ha]
            rw [e1, he0] at hV
            have HS := Lib.hid (fun w h g => (show Calls Tryz.prog 45 #[.string (sR ((p : Int) : Rat))] w fun e w' => e = .returned (.tuple #[.int .i64 p, .int .i64 0]) ∧ Below w.heap.size w w' by
              rw [sR_int]
              have := vsixteen_any (sI p) w (Nat.le_trans (sI_len (k := 5) (by omega) (by omega)) (by omega)) h g
              rw [sI_list, sixteen_int p0 p1] at this
              exact this))
            have HSp := Lib.hid (fun w => (show Calls Tryz.prog 55 #[.int .i64 p] w fun e w' => e = .returned (.tuple #[.int .i64 (p / 256), .int .i64 (p % 256), .int .i64 0]) ∧ Below w.heap.size w w' from (vsplit_any p w).mono (by
              rw [show splitT p = (p / 256, p % 256, 0) by unfold splitT; rw [if_pos ⟨p0, p1⟩]]
              rintro e w' ⟨rfl, rfl⟩
              exact ⟨rfl, Below.refl _ _⟩)))
            have HJ := Lib.hid (fun w => (show Calls Tryz.prog 56 #[.int .i64 (p / 256), .int .i64 (p % 256)] w fun e w' => e = .returned (.tuple #[.int .i64 p, .int .i64 0]) ∧ Below w.heap.size w w' from (vjoin_any (p / 256) (p % 256) w).mono (by
              rw [show joinT (p / 256) (p % 256) = (p, 0) by unfold joinT; rw [if_pos (by omega)]; congr 1; omega]
              rintro e w' ⟨rfl, rfl⟩
              exact ⟨rfl, Below.refl _ _⟩)))
            have HO := Lib.hid (fun w => (show Calls Tryz.prog 57 #[.int .i64 p, .int .i64 16] w fun e w' => e = .returned (.tuple #[.int .i64 p, .int .i64 0]) ∧ Below w.heap.size w w' by
              have := vOf_any p 16 w
              rw [show rawT p 16 = (p, 0) by unfold rawT; rw [if_neg (by omega), if_neg (by omega), if_neg (by omega)]] at this
              exact this))
            have HWh := Lib.hid (fun w => swhole_fit (x := p) (by omega) (by omega) w)
            generalize sR ((p : Int) : Rat) = Q at *
            have HV := Lib.hid hV
            have HI := Lib.hid hi2
            have m1 : IntKind.i64.wrap ((C.length : Int) - 1) = (l0.length : Int) + 1 := by rw [show (C.length : Int) - 1 = (l0.length : Int) + 1 by omega]; exact IntWalk.i64_in _ (by omega)
            have m2 : (0 : Int) ≤ (l0.length : Int) + 1 := by omega
            have m3 : (l0.length : Int) + 1 < (C.length : Int) := by omega
            have m4 : ((l0.length : Int) + 1).toNat = l0.length + 1 := by omega
            have m5 : IntKind.i64.wrap (X + I) = X + I := IntWalk.i64_in _ (by omega)
            obtain ⟨Wl, hWl⟩ : ∃ Wl, w2.alloc (.cells #[.string S, .int .i64 p, .int .i64 X, .int .i64 I] 24) = Wl := ⟨_, rfl⟩
            have hGl := GBx.fresh w2 S p X I
            rw [hWl] at hGl
            have hBl : Below w2.heap.size w2 Wl := by rw [← hWl]; exact (Below.refl _ w2).alloc (Nat.le_refl _) _
            have HWl := Lib.hid hWl
            have HBl := Lib.hid hBl
            replace HI := Lib.hid (HI.out.below hBl)
            replace HT := Lib.hid (HT.out.below hBl)
            replace HRg := Lib.hid (HRg.out.below hBl)
            replace HBw := Lib.hid (HBw.out.trans (hBl.mono HBw.out.size))
            clear hV hi2 hC hCl hCl2 hsz hc0 he0 e0 e e1 ha hown hb hB hBx hcC hWl hBl hlt c0 c1 c2 c3
            have hB := Below.refl Wl.heap.size Wl
            obtain ⟨-, c0, c1, c2, c3⟩ := hGl
            go_wp2_with fail
            rw [HWl.out]
            go_wp2_with (first | (go_at_call 17; with_reducible refine (HV.out _ (HI.out.below hB) (HT.out.below hB)).mono ?_; rintro e wk ⟨rfl, hb⟩; replace hB := hB.trans (hb.mono hB.size); clear hb) | (go_at_call 45; with_reducible refine (HS.out _ (HT.out.below hB) (HRg.out.below hB)).mono ?_; rintro e wk ⟨rfl, hb⟩; replace hB := hB.trans (hb.mono hB.size); clear hb) | (go_at_call 55; with_reducible refine (HSp.out _).mono ?_; rintro e wk ⟨rfl, hb⟩; replace hB := hB.trans (hb.mono hB.size); clear hb) | (go_at_call 56; with_reducible refine (HJ.out _).mono ?_; rintro e wk ⟨rfl, hb⟩; replace hB := hB.trans (hb.mono hB.size); clear hb) | (go_at_call 57; with_reducible refine (HO.out _).mono ?_; rintro e wk ⟨rfl, hb⟩; replace hB := hB.trans (hb.mono hB.size); clear hb) | (go_at_call 32; with_reducible refine (HWh.out _).mono ?_; rintro e wk ⟨rfl, hb⟩; replace hB := hB.trans (hb.mono hB.size); clear hb) | (go_at_call 43; with_reducible refine (HAw.out _ (HT.out.below hB) (HRg.out.below hB)).mono ?_; rintro e wk ⟨rfl, hb⟩; replace hB := hB.trans (hb.mono hB.size); clear hb))
            go_ret
            exact ⟨rfl, HBw.out.trans (hB.mono HBw.out.size)⟩
      · have g5 : (5 : Int) < (l.length : Int) := by omega
        go_enter Tryz.func12, Tryz.ntmps12
        go_wp2_with fail
        rw [← HW.out]
        go_wp2_with (first | (go_at_call 16; refine (HF.out _ _ _ (inOne _ _ _ HsW.out.symm ⟨s, v, st, ti⟩)).mono ?_; rintro e wk ⟨rfl, hb⟩; replace hB := (hB.alloc hB.size _).trans (hb.mono (hB.alloc hB.size _).size); clear hb; obtain ⟨-, c0, c1, c2, c3⟩ := HG.out.below HP.out hB) | (go_at_call 25; with_reducible refine (HC.out _).mono ?_; rintro e wk ⟨rfl, hb⟩; replace hB := hB.trans (hb.mono hB.size); clear hb; obtain ⟨-, c0, c1, c2, c3⟩ := HG.out.below HP.out hB) | (go_at_call 43; with_reducible refine (HAw.out _ (HT.out.below hB) (HRg.out.below hB)).mono ?_; rintro e wk ⟨rfl, hb⟩; replace hB := hB.trans (hb.mono hB.size); clear hb; obtain ⟨-, c0, c1, c2, c3⟩ := HG.out.below HP.out hB))
        go_ret
        exact ⟨rfl, HB0.out.trans (hB.mono HB0.out.size)⟩
    · generalize errG s.data.toList v st ti = k at *
      have g1 : (k == 0) = false := by simpa using herr
      have g2 : (k != 0) = true := by simpa using herr
      go_enter Tryz.func12, Tryz.ntmps12
      go_wp2_with fail
      rw [← HW.out]
      go_wp2_with (first | (go_at_call 16; refine (HF.out _ _ _ (inOne _ _ _ HsW.out.symm ⟨s, v, st, ti⟩)).mono ?_; rintro e wk ⟨rfl, hb⟩; replace hB := (hB.alloc hB.size _).trans (hb.mono (hB.alloc hB.size _).size); clear hb; obtain ⟨-, c0, c1, c2, c3⟩ := HG.out.below HP.out hB) | (go_at_call 25; with_reducible refine (HC.out _).mono ?_; rintro e wk ⟨rfl, hb⟩; replace hB := hB.trans (hb.mono hB.size); clear hb; obtain ⟨-, c0, c1, c2, c3⟩ := HG.out.below HP.out hB) | (go_at_call 43; with_reducible refine (HAw.out _ (HT.out.below hB) (HRg.out.below hB)).mono ?_; rintro e wk ⟨rfl, hb⟩; replace hB := hB.trans (hb.mono hB.size); clear hb; obtain ⟨-, c0, c1, c2, c3⟩ := HG.out.below HP.out hB))
      go_ret
      exact ⟨rfl, HB0.out.trans (hB.mono HB0.out.size)⟩
  · rw [show decide ((⟨s, v, st, ti⟩ : Gl).s.size ≤ 120) = false from decide_eq_false hfew] at HF
    go_enter Tryz.func12, Tryz.ntmps12
    go_wp2_with fail
    rw [← HW.out]
    go_wp2_with (first | (go_at_call 16; refine (HF.out _ _ _ (inOne _ _ _ HsW.out.symm ⟨s, v, st, ti⟩)).mono ?_; rintro e wk ⟨rfl, hb⟩; replace hB := (hB.alloc hB.size _).trans (hb.mono (hB.alloc hB.size _).size); clear hb; obtain ⟨-, c0, c1, c2, c3⟩ := HG.out.below HP.out hB) | (go_at_call 43; with_reducible refine (HAw.out _ (HT.out.below hB) (HRg.out.below hB)).mono ?_; rintro e wk ⟨rfl, hb⟩; replace hB := hB.trans (hb.mono hB.size); clear hb; obtain ⟨-, c0, c1, c2, c3⟩ := HG.out.below HP.out hB))
    go_ret
    exact ⟨rfl, HB0.out.trans (hB.mono HB0.out.size)⟩
theorem top_arrive (w : World) (g : Gl) (_ : g.good) (A : Option Addr) (n c : Nat) (l : List Tn) (hl : shT.In w A n l) (hg : ∀ x ∈ l, x.good) (hn : n ≤ maxLen) (x : Int) (hx : (Lit.int .u16 x).wf = true) (hL : Laid w) :
    Calls Tryz.prog 12 #[.agg (shG.cs g).toArray, .slice A n c, .int .u16 x] w fun e w' => e = .returned (.bool true) ∧ Below w.heap.size w w' :=
  garrive_walk w g.s g.v g.st g.ti A n c l x hl (by unfold maxLen at hn; omega) hg (wf_u16 hx).1 (wf_u16 hx).2 hL.1 hL.2
end Go.Proofs.YtjnhdimllllgaaaGreatDoor
