/- Lemmas and contracts of functions, joined for the claim: LkRN, LkRC, LkRS, LkRF. -/
import Derived.Test.YtbhkfemebionnaaGreatDoorMRefA
namespace Go.Proofs.YtbhkfemebionnaaGreatDoor
open Go.RowKit

structure NxOK (fol : Int) (lnk : ByteArray) (lps : Int) : Prop where
  hf : fol = -1 ∨ (25 ≤ fol ∧ fol ≤ 10000000)
  hk : lnk = ⟨#[]⟩ ∨ numE lnk.data.toList = 0
  hp : 0 ≤ lps ∧ lps ≤ 100
  hu : lnk = ⟨#[]⟩ → lps = 0
set_option maxRecDepth 100000 in
set_option maxHeartbeats 16000000 in
theorem rnext_any (num lab : ByteArray) (MA : Option Addr) (mn mc : Nat) (PA : Option Addr) (pn pc : Nat) (blk mrk : Bool) (fol : Int) (lnk : ByteArray) (lps : Int) (w : World) (hs : lnk.size ≤ 9223372036854775807) :
    Calls Tryz.prog 58 #[.agg #[.string num, .string lab, .slice MA mn mc, .slice PA pn pc, .bool blk, .bool mrk, .int .i64 fol, .string lnk, .int .i64 lps]] w fun e w' => (∃ E, e = .returned (.int .i64 E) ∧ (E = 0 → NxOK fol lnk lps)) ∧ Below w.heap.size w w' := by
  have HC := Lib.hid (fun w => rnum_any lnk w hs)
  obtain ⟨W, hW⟩ : ∃ W, W = w.alloc (.cells #[.string num, .string lab, .slice MA mn mc, .slice PA pn pc, .bool blk, .bool mrk, .int .i64 fol, .string lnk, .int .i64 lps] 34) := ⟨_, rfl⟩
  have hK : ∀ n, Below w.heap.size w (W.drewN n) ∧ w.heap.size < W.heap.size ∧ (W.drewN n).cell? ⟨w.heap.size, 8, none⟩ = some (.int .i64 lps) ∧ (W.drewN n).cell? ⟨w.heap.size, 7, none⟩ = some (.string lnk) := fun n => by
    rw [hW]
    refine ⟨below_drewN ((Below.refl _ _).alloc (Nat.le_refl _) _) n, by simp, ?_, ?_⟩
    · show World.cell? (w.alloc _) _ = _
      rw [World.cell?_alloc_new]; rfl
    · show World.cell? (w.alloc _) _ = _
      rw [World.cell?_alloc_new]; rfl
  have HK := Lib.hid hK
  have HW := Lib.hid hW
  have HB := Lib.hid (show Below w.heap.size w W from by rw [hW]; exact (Below.refl _ _).alloc (Nat.le_refl _) _)
  have HE : Hid (numE lnk.data.toList = 0 → numE lnk.data.toList = 0) := Lib.hid id
  obtain ⟨E, hE⟩ : ∃ E, E = numE lnk.data.toList := ⟨_, rfl⟩
  rw [← hE] at HC
  have HE := Lib.hid hE
  clear hK hW hE hs
  have HS := Lib.hid (show lnk.toList = [] ↔ lnk = ⟨#[]⟩ by
    constructor
    · intro h
      exact ByteArray.ext (Array.ext' (by rw [← h]; exact (ByteArray.toList_eq _).symm))
    · rintro rfl; exact ByteArray.toList_eq _)
  by_cases h1 : fol = -1
  · subst h1
    by_cases hl : lnk.toList = []
    · have hlb : (lnk.toList == []) = true := by rw [hl]; rfl
      have hlc : lnk.toList.isEmpty = true := by rw [hl]; rfl
      have HL := Lib.hid (HS.out.1 hl)
      by_cases k1 : lps < 0
      · go_enter Tryz.func58, Tryz.ntmps58
        go_wp2_with (go_at_call 13; refine (HC.out _).mono ?_; rintro e w1 ⟨rfl, n1, rfl⟩; obtain ⟨hBk, hsz, c8, c7⟩ := HK.out n1)
        go_ret
        exact ⟨⟨_, rfl, fun h => by cases h⟩, by rw [← HW.out]; first | exact HB.out | exact (HK.out _).1⟩
      by_cases k2 : 100 < lps
      · go_enter Tryz.func58, Tryz.ntmps58
        go_wp2_with (go_at_call 13; refine (HC.out _).mono ?_; rintro e w1 ⟨rfl, n1, rfl⟩; obtain ⟨hBk, hsz, c8, c7⟩ := HK.out n1)
        go_ret
        exact ⟨⟨_, rfl, fun h => by cases h⟩, by rw [← HW.out]; first | exact HB.out | exact (HK.out _).1⟩
      by_cases k3 : 0 < lps
      · go_enter Tryz.func58, Tryz.ntmps58
        go_wp2_with (go_at_call 13; refine (HC.out _).mono ?_; rintro e w1 ⟨rfl, n1, rfl⟩; obtain ⟨hBk, hsz, c8, c7⟩ := HK.out n1)
        go_ret
        exact ⟨⟨_, rfl, fun h => by cases h⟩, by rw [← HW.out]; first | exact HB.out | exact (HK.out _).1⟩
      go_enter Tryz.func58, Tryz.ntmps58
      go_wp2_with (go_at_call 13; refine (HC.out _).mono ?_; rintro e w1 ⟨rfl, n1, rfl⟩; obtain ⟨hBk, hsz, c8, c7⟩ := HK.out n1)
      go_ret
      exact ⟨⟨_, rfl, fun _ => ⟨Or.inl rfl, Or.inl HL.out, by omega, fun _ => by omega⟩⟩, by rw [← HW.out]; first | exact HB.out | exact (HK.out _).1⟩
    · have hlb : (lnk.toList == []) = false := by simpa using hl
      have hlc : lnk.toList.isEmpty = false := by simpa using hl
      have HL := Lib.hid (show ¬ lnk = ⟨#[]⟩ from fun h => hl (HS.out.2 h))
      by_cases k0 : E = 0
      rotate_left
      · have k0b : (E != 0) = true := by simpa using k0
        go_enter Tryz.func58, Tryz.ntmps58
        go_wp2_with (go_at_call 13; refine (HC.out _).mono ?_; rintro e w1 ⟨rfl, n1, rfl⟩; obtain ⟨hBk, hsz, c8, c7⟩ := HK.out n1)
        go_ret
        exact ⟨⟨_, rfl, fun h => absurd h k0⟩, by rw [← HW.out]; first | exact HB.out | exact (HK.out _).1⟩
      subst k0
      by_cases k1 : lps < 0
      · go_enter Tryz.func58, Tryz.ntmps58
        go_wp2_with (go_at_call 13; refine (HC.out _).mono ?_; rintro e w1 ⟨rfl, n1, rfl⟩; obtain ⟨hBk, hsz, c8, c7⟩ := HK.out n1)
        go_ret
        exact ⟨⟨_, rfl, fun h => by cases h⟩, by rw [← HW.out]; first | exact HB.out | exact (HK.out _).1⟩
      by_cases k2 : 100 < lps
      · go_enter Tryz.func58, Tryz.ntmps58
        go_wp2_with (go_at_call 13; refine (HC.out _).mono ?_; rintro e w1 ⟨rfl, n1, rfl⟩; obtain ⟨hBk, hsz, c8, c7⟩ := HK.out n1)
        go_ret
        exact ⟨⟨_, rfl, fun h => by cases h⟩, by rw [← HW.out]; first | exact HB.out | exact (HK.out _).1⟩
      by_cases k3 : 0 < lps
      · go_enter Tryz.func58, Tryz.ntmps58
        go_wp2_with (go_at_call 13; refine (HC.out _).mono ?_; rintro e w1 ⟨rfl, n1, rfl⟩; obtain ⟨hBk, hsz, c8, c7⟩ := HK.out n1)
        go_ret
        exact ⟨⟨_, rfl, fun _ => ⟨Or.inl rfl, Or.inr HE.out.symm, by omega, fun h => absurd h HL.out⟩⟩, by rw [← HW.out]; first | exact HB.out | exact (HK.out _).1⟩
      go_enter Tryz.func58, Tryz.ntmps58
      go_wp2_with (go_at_call 13; refine (HC.out _).mono ?_; rintro e w1 ⟨rfl, n1, rfl⟩; obtain ⟨hBk, hsz, c8, c7⟩ := HK.out n1)
      go_ret
      exact ⟨⟨_, rfl, fun _ => ⟨Or.inl rfl, Or.inr HE.out.symm, by omega, fun h => absurd h HL.out⟩⟩, by rw [← HW.out]; first | exact HB.out | exact (HK.out _).1⟩
  have h1b : (fol != -1) = true := by simpa using h1
  by_cases h2 : fol < 25
  · go_enter Tryz.func58, Tryz.ntmps58
    go_wp2_with (go_at_call 13; refine (HC.out _).mono ?_; rintro e w1 ⟨rfl, n1, rfl⟩; obtain ⟨hBk, hsz, c8, c7⟩ := HK.out n1)
    go_ret
    exact ⟨⟨_, rfl, fun h => by cases h⟩, by rw [← HW.out]; first | exact HB.out | exact (HK.out _).1⟩
  by_cases h3 : 10000000 < fol
  · go_enter Tryz.func58, Tryz.ntmps58
    go_wp2_with (go_at_call 13; refine (HC.out _).mono ?_; rintro e w1 ⟨rfl, n1, rfl⟩; obtain ⟨hBk, hsz, c8, c7⟩ := HK.out n1)
    go_ret
    exact ⟨⟨_, rfl, fun h => by cases h⟩, by rw [← HW.out]; first | exact HB.out | exact (HK.out _).1⟩
  have HF := Lib.hid (show fol = -1 ∨ (25 ≤ fol ∧ fol ≤ 10000000) from Or.inr ⟨by omega, by omega⟩)
  by_cases hl : lnk.toList = []
  · have hlb : (lnk.toList == []) = true := by rw [hl]; rfl
    have hlc : lnk.toList.isEmpty = true := by rw [hl]; rfl
    have HL := Lib.hid (HS.out.1 hl)
    by_cases k1 : lps < 0
    · go_enter Tryz.func58, Tryz.ntmps58
      go_wp2_with (go_at_call 13; refine (HC.out _).mono ?_; rintro e w1 ⟨rfl, n1, rfl⟩; obtain ⟨hBk, hsz, c8, c7⟩ := HK.out n1)
      go_ret
      exact ⟨⟨_, rfl, fun h => by cases h⟩, by rw [← HW.out]; first | exact HB.out | exact (HK.out _).1⟩
    by_cases k2 : 100 < lps
    · go_enter Tryz.func58, Tryz.ntmps58
      go_wp2_with (go_at_call 13; refine (HC.out _).mono ?_; rintro e w1 ⟨rfl, n1, rfl⟩; obtain ⟨hBk, hsz, c8, c7⟩ := HK.out n1)
      go_ret
      exact ⟨⟨_, rfl, fun h => by cases h⟩, by rw [← HW.out]; first | exact HB.out | exact (HK.out _).1⟩
    by_cases k3 : 0 < lps
    · go_enter Tryz.func58, Tryz.ntmps58
      go_wp2_with (go_at_call 13; refine (HC.out _).mono ?_; rintro e w1 ⟨rfl, n1, rfl⟩; obtain ⟨hBk, hsz, c8, c7⟩ := HK.out n1)
      go_ret
      exact ⟨⟨_, rfl, fun h => by cases h⟩, by rw [← HW.out]; first | exact HB.out | exact (HK.out _).1⟩
    go_enter Tryz.func58, Tryz.ntmps58
    go_wp2_with (go_at_call 13; refine (HC.out _).mono ?_; rintro e w1 ⟨rfl, n1, rfl⟩; obtain ⟨hBk, hsz, c8, c7⟩ := HK.out n1)
    go_ret
    exact ⟨⟨_, rfl, fun _ => ⟨HF.out, Or.inl HL.out, by omega, fun _ => by omega⟩⟩, by rw [← HW.out]; first | exact HB.out | exact (HK.out _).1⟩
  · have hlb : (lnk.toList == []) = false := by simpa using hl
    have hlc : lnk.toList.isEmpty = false := by simpa using hl
    have HL := Lib.hid (show ¬ lnk = ⟨#[]⟩ from fun h => hl (HS.out.2 h))
    by_cases k0 : E = 0
    rotate_left
    · have k0b : (E != 0) = true := by simpa using k0
      go_enter Tryz.func58, Tryz.ntmps58
      go_wp2_with (go_at_call 13; refine (HC.out _).mono ?_; rintro e w1 ⟨rfl, n1, rfl⟩; obtain ⟨hBk, hsz, c8, c7⟩ := HK.out n1)
      go_ret
      exact ⟨⟨_, rfl, fun h => absurd h k0⟩, by rw [← HW.out]; first | exact HB.out | exact (HK.out _).1⟩
    subst k0
    by_cases k1 : lps < 0
    · go_enter Tryz.func58, Tryz.ntmps58
      go_wp2_with (go_at_call 13; refine (HC.out _).mono ?_; rintro e w1 ⟨rfl, n1, rfl⟩; obtain ⟨hBk, hsz, c8, c7⟩ := HK.out n1)
      go_ret
      exact ⟨⟨_, rfl, fun h => by cases h⟩, by rw [← HW.out]; first | exact HB.out | exact (HK.out _).1⟩
    by_cases k2 : 100 < lps
    · go_enter Tryz.func58, Tryz.ntmps58
      go_wp2_with (go_at_call 13; refine (HC.out _).mono ?_; rintro e w1 ⟨rfl, n1, rfl⟩; obtain ⟨hBk, hsz, c8, c7⟩ := HK.out n1)
      go_ret
      exact ⟨⟨_, rfl, fun h => by cases h⟩, by rw [← HW.out]; first | exact HB.out | exact (HK.out _).1⟩
    by_cases k3 : 0 < lps
    · go_enter Tryz.func58, Tryz.ntmps58
      go_wp2_with (go_at_call 13; refine (HC.out _).mono ?_; rintro e w1 ⟨rfl, n1, rfl⟩; obtain ⟨hBk, hsz, c8, c7⟩ := HK.out n1)
      go_ret
      exact ⟨⟨_, rfl, fun _ => ⟨HF.out, Or.inr HE.out.symm, by omega, fun h => absurd h HL.out⟩⟩, by rw [← HW.out]; first | exact HB.out | exact (HK.out _).1⟩
    go_enter Tryz.func58, Tryz.ntmps58
    go_wp2_with (go_at_call 13; refine (HC.out _).mono ?_; rintro e w1 ⟨rfl, n1, rfl⟩; obtain ⟨hBk, hsz, c8, c7⟩ := HK.out n1)
    go_ret
    exact ⟨⟨_, rfl, fun _ => ⟨HF.out, Or.inr HE.out.symm, by omega, fun h => absurd h HL.out⟩⟩, by rw [← HW.out]; first | exact HB.out | exact (HK.out _).1⟩
end Go.Proofs.YtbhkfemebionnaaGreatDoor

namespace Go.Proofs.YtbhkfemebionnaaGreatDoor
open Go.RowKit

set_option maxRecDepth 100000 in
set_option maxHeartbeats 16000000 in
theorem rcue_any (num lab : ByteArray) (MA : Option Addr) (mn mc : Nat) (PA : Option Addr) (pn pc : Nat) (blk mrk : Bool) (fol : Int) (lnk : ByteArray) (lps : Int) (ms : List Mv) (ts : List Tm) (w : World) (hx : CV.In w ⟨⟨num, lab, MA, mn, mc, PA, pn, pc, blk, mrk, fol, lnk, lps⟩, ms, ts⟩) (hs1 : num.size ≤ 9223372036854775807) (hs2 : lnk.size ≤ 9223372036854775807) :
    Calls Tryz.prog 28 #[.agg #[.string num, .string lab, .slice MA mn mc, .slice PA pn pc, .bool blk, .bool mrk, .int .i64 fol, .string lnk, .int .i64 lps]] w fun e w' => (∃ E, e = .returned (.int .i64 E) ∧ (E = 0 → CuOK ⟨⟨num, lab, MA, mn, mc, PA, pn, pc, blk, mrk, fol, lnk, lps⟩, ms, ts⟩)) ∧ Below w.heap.size w w' := by
  have hx1 : shMv.In w MA mn ms := hx.1
  have hx2 : shTm.In w PA pn ts := hx.2
  clear hx
  have hm : mn = ms.length := hx1.1
  have hp : pn = ts.length := hx2.1
  subst hm
  subst hp
  have HC1 := Lib.hid (fun w => rnum_any num w hs1)
  have HCN := Lib.hid (fun w => rnext_any num lab MA ms.length mc PA ts.length pc blk mrk fol lnk lps w hs2)
  obtain ⟨W, hW⟩ : ∃ W, W = w.alloc (.cells #[.string num, .string lab, .slice MA ms.length mc, .slice PA ts.length pc, .bool blk, .bool mrk, .int .i64 fol, .string lnk, .int .i64 lps] 34) := ⟨_, rfl⟩
  have hB0 : Below w.heap.size w W := by rw [hW]; exact (Below.refl _ _).alloc (Nat.le_refl _) _
  have hcW : Cells W w.heap.size [.string num, .string lab, .slice MA ms.length mc, .slice PA ts.length pc, .bool blk, .bool mrk, .int .i64 fol, .string lnk, .int .i64 lps] := by rw [hW]; exact Cells.fresh w [.string num, .string lab, .slice MA ms.length mc, .slice PA ts.length pc, .bool blk, .bool mrk, .int .i64 fol, .string lnk, .int .i64 lps] _
  have hK : ∀ V, Below W.heap.size W V → V.cell? ⟨w.heap.size, 0, none⟩ = some (.string num) ∧ V.cell? ⟨w.heap.size, 1, none⟩ = some (.string lab) ∧ V.cell? ⟨w.heap.size, 2, none⟩ = some (.slice MA ms.length mc) ∧ V.cell? ⟨w.heap.size, 3, none⟩ = some (.slice PA ts.length pc) ∧ V.cell? ⟨w.heap.size, 4, none⟩ = some (.bool blk) ∧ V.cell? ⟨w.heap.size, 5, none⟩ = some (.bool mrk) ∧ V.cell? ⟨w.heap.size, 6, none⟩ = some (.int .i64 fol) ∧ V.cell? ⟨w.heap.size, 7, none⟩ = some (.string lnk) ∧ V.cell? ⟨w.heap.size, 8, none⟩ = some (.int .i64 lps) ∧ w.heap.size < V.heap.size := fun V h => by
    have hc := hcW.below h hcW.1
    exact ⟨hc.at_ (j := 0) rfl, hc.at_ (j := 1) rfl, hc.at_ (j := 2) rfl, hc.at_ (j := 3) rfl, hc.at_ (j := 4) rfl, hc.at_ (j := 5) rfl, hc.at_ (j := 6) rfl, hc.at_ (j := 7) rfl, hc.at_ (j := 8) rfl, hc.1⟩
  have HK := Lib.hid hK
  have HW := Lib.hid hW
  have HB0 := Lib.hid hB0
  have HX1 := Lib.hid (hx1.below hB0)
  have HM := Lib.hid (fun V (h : Below W.heap.size W V) => rmoves_any MA ms.length mc ms V ((hx1.below hB0).below h))
  have HP := Lib.hid (fun V (h : Below W.heap.size W V) => rparts_any PA ts.length pc ts V ((hx2.below hB0).below h))
  have hB := Below.refl W.heap.size W
  obtain ⟨E1, hE1⟩ : ∃ E, E = numE num.data.toList := ⟨_, rfl⟩
  rw [← hE1] at HC1
  have HE1 := Lib.hid hE1
  clear hW hB0 hcW hK hx1 hx2 hE1 hs1 hs2
  by_cases e1 : E1 = 0
  rotate_left
  · have g1 : (E1 != 0) = true := by simpa using e1
    go_enter Tryz.func28, Tryz.ntmps28
    go_wp2_with fail
    rw [← HW.out]
    refine (HC1.out _).mono ?_
    rintro e w1 ⟨rfl, n1, rfl⟩
    go_wp2_with fail
    go_ret
    exact ⟨⟨_, rfl, fun h => absurd h e1⟩, below_drewN HB0.out n1⟩
  subst e1
  go_enter Tryz.func28, Tryz.ntmps28
  go_wp2_with fail
  rw [← HW.out]
  refine (HC1.out _).mono ?_
  rintro e w1 ⟨rfl, n1, rfl⟩
  replace hB := below_drewN hB n1
  obtain ⟨c0, c1, c2, c3, c4, c5, c6, c7, c8, hsz⟩ := HK.out _ hB
  generalize W.drewN n1 = V1 at *
  go_wp2_with fail
  refine (rlabel_any lab _).mono ?_
  rintro e w2 ⟨⟨E2, rfl, h2⟩, rfl⟩
  by_cases e2 : E2 = 0
  rotate_left
  · have g2 : (E2 != 0) = true := by simpa using e2
    go_wp2_with fail
    go_ret
    exact ⟨⟨_, rfl, fun h => absurd h e2⟩, HB0.out.trans (hB.mono HB0.out.size)⟩
  subst e2
  have HL := Lib.hid (h2 rfl)
  clear h2
  go_wp2_with fail
  refine (HM.out _ hB).mono ?_
  rintro e w3 ⟨⟨E3, rfl, h3⟩, hb⟩
  replace hB := hB.trans (hb.mono hB.size)
  clear hb c0 c1 c2 c3 c4 c5 c6 c7 c8 hsz
  obtain ⟨c0, c1, c2, c3, c4, c5, c6, c7, c8, hsz⟩ := HK.out _ hB
  by_cases e3 : E3 = 0
  rotate_left
  · have g2 : (E3 != 0) = true := by simpa using e3
    go_wp2_with fail
    go_ret
    exact ⟨⟨_, rfl, fun h => absurd h e3⟩, HB0.out.trans (hB.mono HB0.out.size)⟩
  subst e3
  have HMs := Lib.hid (h3 rfl)
  clear h3
  go_wp2_with fail
  refine (HP.out _ hB).mono ?_
  rintro e w4 ⟨⟨E4, rfl, h4⟩, hb⟩
  replace hB := hB.trans (hb.mono hB.size)
  clear hb c0 c1 c2 c3 c4 c5 c6 c7 c8 hsz
  obtain ⟨c0, c1, c2, c3, c4, c5, c6, c7, c8, hsz⟩ := HK.out _ hB
  by_cases e4 : E4 = 0
  rotate_left
  · have g2 : (E4 != 0) = true := by simpa using e4
    go_wp2_with fail
    go_ret
    exact ⟨⟨_, rfl, fun h => absurd h e4⟩, HB0.out.trans (hB.mono HB0.out.size)⟩
  subst e4
  have HPs := Lib.hid (h4 rfl)
  clear h4
  go_wp2_with fail
  have HB4 := Lib.hid hB
  clear hB c0 c1 c2 c3 c4 c5 c6 c7 c8 hsz
  go_loopw [7] (fun iv wr => ∃ k : Nat, k ≤ ms.length ∧ iv = .int .i64 k ∧ Below W.heap.size W wr ∧ (∀ j (h : j < ms.length), j < k → ms[j].pt ≤ ts.length)) (fun iv _ => ms.length - (intOf iv).toNat)
  case atStart => exact ⟨0, Nat.zero_le _, rfl, HB4.out, fun j _ h => absurd h (Nat.not_lt_zero _)⟩
  case round =>
    obtain ⟨k, hk, rfl, hB, hok⟩ := hrel
    have HOk := Lib.hid hok
    clear hok
    obtain ⟨c0, c1, c2, c3, c4, c5, c6, c7, c8, hsz⟩ := HK.out _ hB
    by_cases hlt : k < ms.length
    · have i0 : (0 : Int) ≤ (k : Int) := by omega
      have i1 : (k : Int) < (ms.length : Int) := by omega
      have w0 : IntKind.i64.wrap ((k : Int) + 1) = (k : Int) + 1 := IntWalk.i64_in _ (by have := HMs.out.few; omega)
      obtain ⟨b, o, rfl, hbl, hcell⟩ := mv_at HX1.out (by omega)
      have p4 := (hB.drew.cell (p := ⟨b, o + k * 5 + 4, none⟩) hbl).trans (hcell k hlt).2.2.2.2
      have HA1 := Lib.hid (show ms[k].pt ≤ ts.length → ∀ j (h : j < ms.length), j < k + 1 → ms[j].pt ≤ ts.length from fun h j hj hjk => by
        rcases Nat.lt_or_eq_of_le (Nat.le_of_lt_succ hjk) with h1 | h1
        · exact HOk.out j hj h1
        · subst h1; exact h)
      generalize ms[k].pt = pt at *
      have hbw : b < wr.drew.heap.size := Nat.lt_of_lt_of_le hbl hB.drew.size
      by_cases hp : (ts.length : Int) < pt
      · go_wp2_with fail
        replace hB := hB.drew
        refine wp_region_held_drew (S := fun w' => w'.cell? ⟨w.heap.size, 2, none⟩ = some (.slice (some ⟨b, o, none⟩) ms.length mc) ∧ w'.cell? ⟨w.heap.size, 3, none⟩ = some (.slice PA ts.length pc) ∧ w'.cell? ⟨b, o + k * 5 + 4, none⟩ = some (.int .i64 pt)) (by kernel_rfl) (by first | exact ⟨c2, c3, p4⟩) (fun hHeld => ?_)
        refine wpAnyH_take (i := 0) (oi := ?_) (v := ?_) ?_ (by kernel_rfl) (by kernel_rfl) (by kernel_rfl) ?_ (Or.inl ⟨?_, ?_⟩) (by assumption) ?_
        rotate_left 2
        · (simp only [List.getElem?_toArray, List.getElem?_cons_zero]; rfl)
        · exact fun _ _ _ h => h
        · rfl
        · (intro w hSw; (try dsimp only at hSw); go_simp; try with_reducible rfl)
        simp only [Act.put, List.setIfInBounds_toArray, List.set_cons_zero, List.set_cons_succ]
        refine wpAnyH_take (i := 1) (oi := ?_) (v := ?_) ?_ (by kernel_rfl) (by kernel_rfl) (by kernel_rfl) ?_ (Or.inl ⟨?_, ?_⟩) (by assumption) ?_
        rotate_left 2
        · (simp only [List.getElem?_toArray, List.getElem?_cons_succ, List.getElem?_cons_zero]; rfl)
        · exact fun _ _ _ h => h
        · rfl
        · (intro w hSw; (try dsimp only at hSw); go_simp; try with_reducible rfl)
        simp only [Act.put, List.setIfInBounds_toArray, List.set_cons_zero, List.set_cons_succ]
        refine wpAnyH_take (i := 2) (oi := ?_) (v := ?_) ?_ (by kernel_rfl) (by kernel_rfl) (by kernel_rfl) ?_ (Or.inl ⟨?_, ?_⟩) (by assumption) ?_
        rotate_left 2
        · (simp only [List.getElem?_toArray, List.getElem?_cons_succ, List.getElem?_cons_zero]; rfl)
        · exact fun _ _ _ h => h
        · rfl
        · (intro w hSw; (try dsimp only at hSw); go_simp; try with_reducible rfl)
        simp only [Act.put, List.setIfInBounds_toArray, List.set_cons_zero, List.set_cons_succ]
        refine wpAnyH_take (i := 3) (oi := ?_) (v := ?_) ?_ (by kernel_rfl) (by kernel_rfl) (by kernel_rfl) ?_ (Or.inl ⟨?_, ?_⟩) (by assumption) ?_
        rotate_left 2
        · (simp only [List.getElem?_toArray, List.getElem?_cons_succ, List.getElem?_cons_zero]; rfl)
        · exact fun _ _ _ h => h
        · rfl
        · (intro w hSw; (try dsimp only at hSw); go_simp; try with_reducible rfl)
        simp only [Act.put, List.setIfInBounds_toArray, List.set_cons_zero, List.set_cons_succ]
        refine wpAnyH_take (i := 4) (oi := ?_) (v := ?_) ?_ (by kernel_rfl) (by kernel_rfl) (by kernel_rfl) ?_ (Or.inl ⟨?_, ?_⟩) (by assumption) ?_
        rotate_left 2
        · (simp only [List.getElem?_toArray, List.getElem?_cons_succ, List.getElem?_cons_zero]; rfl)
        · exact fun _ _ _ h => h
        · rfl
        · (intro w hSw; (try dsimp only at hSw); go_simp; try with_reducible rfl)
        simp only [Act.put, List.setIfInBounds_toArray, List.set_cons_zero, List.set_cons_succ]
        refine wpAnyH_take (i := 5) (oi := ?_) (v := ?_) ?_ (by kernel_rfl) (by kernel_rfl) (by kernel_rfl) ?_ (Or.inl ⟨?_, ?_⟩) (by assumption) ?_
        rotate_left 2
        · (simp only [List.getElem?_toArray, List.getElem?_cons_succ, List.getElem?_cons_zero]; rfl)
        · exact fun _ _ _ h => h
        · rfl
        · (intro w hSw; (try dsimp only at hSw); go_simp; try with_reducible rfl)
        simp only [Act.put, List.setIfInBounds_toArray, List.set_cons_zero, List.set_cons_succ]
        refine wpAnyH_take (i := 6) (oi := ?_) (v := ?_) ?_ (by kernel_rfl) (by kernel_rfl) (by kernel_rfl) ?_ (Or.inl ⟨?_, ?_⟩) (by assumption) ?_
        rotate_left 2
        · (simp only [List.getElem?_toArray, List.getElem?_cons_succ, List.getElem?_cons_zero]; rfl)
        · exact fun _ _ _ h => h
        · rfl
        · (intro w hSw; (try dsimp only at hSw); go_simp; try with_reducible rfl)
        simp only [Act.put, List.setIfInBounds_toArray, List.set_cons_zero, List.set_cons_succ]
        refine wpAnyH_take (i := 7) (oi := ?_) (v := ?_) ?_ (by kernel_rfl) (by kernel_rfl) (by kernel_rfl) ?_ (Or.inl ⟨?_, ?_⟩) (by assumption) ?_
        rotate_left 2
        · (simp only [List.getElem?_toArray, List.getElem?_cons_succ, List.getElem?_cons_zero]; rfl)
        · exact fun _ _ _ h => h
        · rfl
        · (intro w hSw; (try dsimp only at hSw); go_simp; try with_reducible rfl)
        simp only [Act.put, List.setIfInBounds_toArray, List.set_cons_zero, List.set_cons_succ]
        refine wpAnyH_take (i := 8) (oi := ?_) (v := ?_) ?_ (by kernel_rfl) (by kernel_rfl) (by kernel_rfl) ?_ (Or.inl ⟨?_, ?_⟩) (by assumption) ?_
        rotate_left 2
        · (simp only [List.getElem?_toArray, List.getElem?_cons_succ, List.getElem?_cons_zero]; rfl)
        · exact fun _ _ _ h => h
        · rfl
        · (intro w hSw; (try dsimp only at hSw); go_simp; try with_reducible rfl)
        simp only [Act.put, List.setIfInBounds_toArray, List.set_cons_zero, List.set_cons_succ]
        refine wpAnyH_take (i := 9) (oi := ?_) (v := ?_) ?_ (by kernel_rfl) (by kernel_rfl) (by kernel_rfl) ?_ (Or.inl ⟨?_, ?_⟩) (by assumption) ?_
        rotate_left 2
        · (simp only [List.getElem?_toArray, List.getElem?_cons_succ, List.getElem?_cons_zero]; rfl)
        · exact fun _ _ _ h => h
        · rfl
        · (intro w hSw; (try dsimp only at hSw); go_simp; try with_reducible rfl)
        simp only [Act.put, List.setIfInBounds_toArray, List.set_cons_zero, List.set_cons_succ]
        refine wpAnyH_done (by kernel_rfl) ?_ _
        go_wp2_with fail
        go_ret
        exact ⟨⟨6, rfl, fun h => by cases h⟩, HB0.out.trans (hB.mono HB0.out.size)⟩
      · go_wp2_with fail
        replace hB := hB.drew
        refine wp_region_held_drew (S := fun w' => w'.cell? ⟨w.heap.size, 2, none⟩ = some (.slice (some ⟨b, o, none⟩) ms.length mc) ∧ w'.cell? ⟨w.heap.size, 3, none⟩ = some (.slice PA ts.length pc) ∧ w'.cell? ⟨b, o + k * 5 + 4, none⟩ = some (.int .i64 pt)) (by kernel_rfl) (by first | exact ⟨c2, c3, p4⟩) (fun hHeld => ?_)
        refine wpAnyH_take (i := 0) (oi := ?_) (v := ?_) ?_ (by kernel_rfl) (by kernel_rfl) (by kernel_rfl) ?_ (Or.inl ⟨?_, ?_⟩) (by assumption) ?_
        rotate_left 2
        · (simp only [List.getElem?_toArray, List.getElem?_cons_zero]; rfl)
        · exact fun _ _ _ h => h
        · rfl
        · (intro w hSw; (try dsimp only at hSw); go_simp; try with_reducible rfl)
        simp only [Act.put, List.setIfInBounds_toArray, List.set_cons_zero, List.set_cons_succ]
        refine wpAnyH_take (i := 1) (oi := ?_) (v := ?_) ?_ (by kernel_rfl) (by kernel_rfl) (by kernel_rfl) ?_ (Or.inl ⟨?_, ?_⟩) (by assumption) ?_
        rotate_left 2
        · (simp only [List.getElem?_toArray, List.getElem?_cons_succ, List.getElem?_cons_zero]; rfl)
        · exact fun _ _ _ h => h
        · rfl
        · (intro w hSw; (try dsimp only at hSw); go_simp; try with_reducible rfl)
        simp only [Act.put, List.setIfInBounds_toArray, List.set_cons_zero, List.set_cons_succ]
        refine wpAnyH_take (i := 2) (oi := ?_) (v := ?_) ?_ (by kernel_rfl) (by kernel_rfl) (by kernel_rfl) ?_ (Or.inl ⟨?_, ?_⟩) (by assumption) ?_
        rotate_left 2
        · (simp only [List.getElem?_toArray, List.getElem?_cons_succ, List.getElem?_cons_zero]; rfl)
        · exact fun _ _ _ h => h
        · rfl
        · (intro w hSw; (try dsimp only at hSw); go_simp; try with_reducible rfl)
        simp only [Act.put, List.setIfInBounds_toArray, List.set_cons_zero, List.set_cons_succ]
        refine wpAnyH_take (i := 3) (oi := ?_) (v := ?_) ?_ (by kernel_rfl) (by kernel_rfl) (by kernel_rfl) ?_ (Or.inl ⟨?_, ?_⟩) (by assumption) ?_
        rotate_left 2
        · (simp only [List.getElem?_toArray, List.getElem?_cons_succ, List.getElem?_cons_zero]; rfl)
        · exact fun _ _ _ h => h
        · rfl
        · (intro w hSw; (try dsimp only at hSw); go_simp; try with_reducible rfl)
        simp only [Act.put, List.setIfInBounds_toArray, List.set_cons_zero, List.set_cons_succ]
        refine wpAnyH_take (i := 4) (oi := ?_) (v := ?_) ?_ (by kernel_rfl) (by kernel_rfl) (by kernel_rfl) ?_ (Or.inl ⟨?_, ?_⟩) (by assumption) ?_
        rotate_left 2
        · (simp only [List.getElem?_toArray, List.getElem?_cons_succ, List.getElem?_cons_zero]; rfl)
        · exact fun _ _ _ h => h
        · rfl
        · (intro w hSw; (try dsimp only at hSw); go_simp; try with_reducible rfl)
        simp only [Act.put, List.setIfInBounds_toArray, List.set_cons_zero, List.set_cons_succ]
        refine wpAnyH_take (i := 5) (oi := ?_) (v := ?_) ?_ (by kernel_rfl) (by kernel_rfl) (by kernel_rfl) ?_ (Or.inl ⟨?_, ?_⟩) (by assumption) ?_
        rotate_left 2
        · (simp only [List.getElem?_toArray, List.getElem?_cons_succ, List.getElem?_cons_zero]; rfl)
        · exact fun _ _ _ h => h
        · rfl
        · (intro w hSw; (try dsimp only at hSw); go_simp; try with_reducible rfl)
        simp only [Act.put, List.setIfInBounds_toArray, List.set_cons_zero, List.set_cons_succ]
        refine wpAnyH_take (i := 6) (oi := ?_) (v := ?_) ?_ (by kernel_rfl) (by kernel_rfl) (by kernel_rfl) ?_ (Or.inl ⟨?_, ?_⟩) (by assumption) ?_
        rotate_left 2
        · (simp only [List.getElem?_toArray, List.getElem?_cons_succ, List.getElem?_cons_zero]; rfl)
        · exact fun _ _ _ h => h
        · rfl
        · (intro w hSw; (try dsimp only at hSw); go_simp; try with_reducible rfl)
        simp only [Act.put, List.setIfInBounds_toArray, List.set_cons_zero, List.set_cons_succ]
        refine wpAnyH_take (i := 7) (oi := ?_) (v := ?_) ?_ (by kernel_rfl) (by kernel_rfl) (by kernel_rfl) ?_ (Or.inl ⟨?_, ?_⟩) (by assumption) ?_
        rotate_left 2
        · (simp only [List.getElem?_toArray, List.getElem?_cons_succ, List.getElem?_cons_zero]; rfl)
        · exact fun _ _ _ h => h
        · rfl
        · (intro w hSw; (try dsimp only at hSw); go_simp; try with_reducible rfl)
        simp only [Act.put, List.setIfInBounds_toArray, List.set_cons_zero, List.set_cons_succ]
        refine wpAnyH_take (i := 8) (oi := ?_) (v := ?_) ?_ (by kernel_rfl) (by kernel_rfl) (by kernel_rfl) ?_ (Or.inl ⟨?_, ?_⟩) (by assumption) ?_
        rotate_left 2
        · (simp only [List.getElem?_toArray, List.getElem?_cons_succ, List.getElem?_cons_zero]; rfl)
        · exact fun _ _ _ h => h
        · rfl
        · (intro w hSw; (try dsimp only at hSw); go_simp; try with_reducible rfl)
        simp only [Act.put, List.setIfInBounds_toArray, List.set_cons_zero, List.set_cons_succ]
        refine wpAnyH_take (i := 9) (oi := ?_) (v := ?_) ?_ (by kernel_rfl) (by kernel_rfl) (by kernel_rfl) ?_ (Or.inl ⟨?_, ?_⟩) (by assumption) ?_
        rotate_left 2
        · (simp only [List.getElem?_toArray, List.getElem?_cons_succ, List.getElem?_cons_zero]; rfl)
        · exact fun _ _ _ h => h
        · rfl
        · (intro w hSw; (try dsimp only at hSw); go_simp; try with_reducible rfl)
        simp only [Act.put, List.setIfInBounds_toArray, List.set_cons_zero, List.set_cons_succ]
        refine wpAnyH_done (by kernel_rfl) ?_ _
        go_wp2_with fail
        go_roundw
        case rel => exact ⟨k + 1, by omega, by go_num, hB, HA1.out (by omega)⟩
        case measure => simp [intOf]; omega
    · obtain rfl : k = ms.length := by omega
      go_wp2_with fail
      refine (HCN.out _).mono ?_
      rintro e w5 ⟨⟨E5, rfl, h5⟩, hb⟩
      replace hB := hB.trans (hb.mono hB.size)
      go_wp2_with fail
      go_ret
      exact ⟨⟨_, rfl, fun h => ⟨HE1.out.symm, HL.out, HMs.out, HPs.out.1, HPs.out.2.1, HPs.out.2.2, fun m hm => by obtain ⟨j, hj, rfl⟩ := List.getElem_of_mem hm; exact HOk.out j hj hj, (h5 h).hf, (h5 h).hk, (h5 h).hp, (h5 h).hu⟩⟩, HB0.out.trans (hB.mono HB0.out.size)⟩
end Go.Proofs.YtbhkfemebionnaaGreatDoor

namespace Go.Proofs.YtbhkfemebionnaaGreatDoor
open Go.RowKit

def ltN (x y : CV) : Prop := numV x.c.num.data.toList < numV y.c.num.data.toList

structure LsOK (no pri : Int) (X : List CV) : Prop where
  no : 1 ≤ no ∧ no ≤ 1048576
  pri : 0 ≤ pri ∧ pri ≤ 9
  few : X.length ≤ 64
  ok : ∀ x ∈ X, CuOK x
  up : X.Pairwise ltN
theorem chain_N : ∀ {l : List CV}, (∀ j (h : j + 1 < l.length), ltN (l[j]'(by omega)) l[j + 1]) → l.Pairwise ltN
  | [], _ => List.Pairwise.nil
  | [a], _ => List.pairwise_singleton _ _
  | a :: b :: l, h => by
    have ih : (b :: l).Pairwise ltN := chain_N fun j hj => h (j + 1) (by simpa using hj)
    have h0 : ltN a b := h 0 (by simp)
    refine List.Pairwise.cons (fun x hx => ?_) ih
    rcases List.mem_cons.1 hx with rfl | hx
    · exact h0
    · exact Nat.lt_trans h0 (List.rel_of_pairwise_cons ih hx)

def CV.fit (x : CV) : Prop := x.c.num.size ≤ 9223372036854775807 ∧ x.c.lnk.size ≤ 9223372036854775807
set_option maxRecDepth 100000 in
set_option maxHeartbeats 32000000 in
theorem rlist_any (no pri : Int) (A : Option Addr) (n c : Nat) (X : List CV) (w : World) (hX : InC w A n X) (hs : ∀ x ∈ X, x.fit) :
    Calls Tryz.prog 10 #[.agg #[.int .i64 no, .int .i64 pri, .slice A n c]] w fun e w' => (∃ E, e = .returned (.int .i64 E) ∧ (E = 0 → LsOK no pri X)) ∧ Below w.heap.size w w' := by
  have hn : n = X.length := hX.len
  subst hn
  have hB0 : Below w.heap.size w (w.alloc (.cells #[.int .i64 no, .int .i64 pri, .slice A X.length c] 24)) := (Below.refl _ _).alloc (Nat.le_refl _) _
  by_cases h1 : no < 1
  · go_enter Tryz.func10, Tryz.ntmps10
    go_wp2_with fail
    go_ret
    exact ⟨⟨2, rfl, fun h => by cases h⟩, hB0⟩
  by_cases h2 : 1048576 < no
  · go_enter Tryz.func10, Tryz.ntmps10
    go_wp2_with fail
    go_ret
    exact ⟨⟨2, rfl, fun h => by cases h⟩, hB0⟩
  by_cases h3 : pri < 0
  · go_enter Tryz.func10, Tryz.ntmps10
    go_wp2_with fail
    go_ret
    exact ⟨⟨2, rfl, fun h => by cases h⟩, hB0⟩
  by_cases h4 : 9 < pri
  · go_enter Tryz.func10, Tryz.ntmps10
    go_wp2_with fail
    go_ret
    exact ⟨⟨2, rfl, fun h => by cases h⟩, hB0⟩
  by_cases h5 : (64 : Int) < (X.length : Int)
  · go_enter Tryz.func10, Tryz.ntmps10
    go_wp2_with fail
    go_ret
    exact ⟨⟨5, rfl, fun h => by cases h⟩, hB0⟩
  have HN := Lib.hid (show (1 ≤ no ∧ no ≤ 1048576) ∧ (0 ≤ pri ∧ pri ≤ 9) ∧ X.length ≤ 64 by omega)
  obtain ⟨W, hW⟩ : ∃ W, W = w.alloc (.cells #[.int .i64 no, .int .i64 pri, .slice A X.length c] 24) := ⟨_, rfl⟩
  rw [← hW] at hB0
  have hcW : Cells W w.heap.size [.int .i64 no, .int .i64 pri, .slice A X.length c] := by rw [hW]; exact Cells.fresh w [.int .i64 no, .int .i64 pri, .slice A X.length c] _
  have hK : ∀ V, Below W.heap.size W V → V.cell? ⟨w.heap.size, 0, none⟩ = some (.int .i64 no) ∧ V.cell? ⟨w.heap.size, 1, none⟩ = some (.int .i64 pri) ∧ V.cell? ⟨w.heap.size, 2, none⟩ = some (.slice A X.length c) ∧ w.heap.size < V.heap.size := fun V h => by
    have hc := hcW.below h hcW.1
    exact ⟨hc.at_ (j := 0) rfl, hc.at_ (j := 1) rfl, hc.at_ (j := 2) rfl, hc.1⟩
  have HK := Lib.hid hK
  have HW := Lib.hid hW
  have HB0 := Lib.hid hB0
  have HX := Lib.hid (hX.below hB0)
  have HS := Lib.hid hs
  clear hW hB0 hcW hK hX hs
  go_enter Tryz.func10, Tryz.ntmps10
  go_wp2_with fail
  rw [← HW.out]
  go_loopw [3] (fun iv wr => ∃ k : Nat, k ≤ X.length ∧ iv = .int .i64 k ∧ Below W.heap.size W wr ∧ (∀ j (h : j < X.length), j < k → CuOK X[j]) ∧ (∀ j (h : j + 1 < X.length), j + 1 < k → ltN (X[j]'(by omega)) X[j + 1])) (fun iv _ => X.length - (intOf iv).toNat)
  case atStart => exact ⟨0, Nat.zero_le _, rfl, Below.refl _ _, fun j _ h => absurd h (Nat.not_lt_zero _), fun j _ h => absurd h (Nat.not_lt_zero _)⟩
  case round =>
    obtain ⟨k, hk, rfl, hB, hok, hup⟩ := hrel
    have HOk := Lib.hid hok
    have HUp := Lib.hid hup
    clear hok hup
    obtain ⟨c0, c1, c2, hsz⟩ := HK.out _ hB
    by_cases hlt : k < X.length
    · have i0 : (0 : Int) ≤ (k : Int) := by omega
      have i1 : (k : Int) < (X.length : Int) := by omega
      have w0 : IntKind.i64.wrap ((k : Int) + 1) = (k : Int) + 1 := IntWalk.i64_in _ (by have := HN.out; omega)
      obtain ⟨b, o, rfl, hbl, hcell⟩ := cu_at HX.out (by omega)
      have hXk := HX.out.2 X[k] (List.getElem_mem hlt)
      have hfk := HS.out X[k] (List.getElem_mem hlt)
      have HA1 := Lib.hid (show CuOK X[k] → ∀ j (h : j < X.length), j < k + 1 → CuOK X[j] from fun h j hj hjk => by
        rcases Nat.lt_or_eq_of_le (Nat.le_of_lt_succ hjk) with h1 | h1
        · exact HOk.out j hj h1
        · subst h1; exact h)
      have HU1 := Lib.hid (show (∀ h0 : 0 < k, ltN (X[k - 1]'(by omega)) X[k]) → ∀ j (h : j + 1 < X.length), j + 1 < k + 1 → ltN (X[j]'(by omega)) X[j + 1] from fun h j hj hjk => by
        rcases Nat.lt_or_eq_of_le (Nat.le_of_lt_succ hjk) with h1 | h1
        · exact HUp.out j hj h1
        · subst h1; exact h (by omega))
      have HQ := Lib.hid (show 0 < k → ∃ x, x.fit ∧ CuOK x ∧ (∀ V, Below W.heap.size W V → V.cell? ⟨b, o + (k - 1) * 9, none⟩ = some (.string x.c.num)) ∧ ∀ h : k - 1 < X.length, X[k - 1] = x from fun h0 => ⟨X[k - 1]'(by omega), HS.out _ (List.getElem_mem _), HOk.out (k - 1) (by omega) (by omega), fun V hV => (hV.cell (p := ⟨b, o + (k - 1) * 9, none⟩) hbl).trans (hcell (k - 1) (by omega)).1, fun _ => rfl⟩)
      have hck := hcell k hlt
      obtain ⟨x, hx⟩ : ∃ x, x = X[k] := ⟨_, rfl⟩
      rw [← hx] at hXk hfk HA1 HU1 hck
      clear hx hcell HOk HUp
      obtain ⟨⟨num, lab, MA, mn, mc, PA, pn, pc, blk, mrk, fol, lnk, lps⟩, ms, ts⟩ := x
      have HQk := Lib.hid (show ∀ V, Below W.heap.size W V → V.cell? ⟨b, o + k * 9, none⟩ = some (.string num) ∧ V.cell? ⟨b, o + k * 9 + 1, none⟩ = some (.string lab) ∧ V.cell? ⟨b, o + k * 9 + 2, none⟩ = some (.slice MA mn mc) ∧ V.cell? ⟨b, o + k * 9 + 3, none⟩ = some (.slice PA pn pc) ∧ V.cell? ⟨b, o + k * 9 + 4, none⟩ = some (.bool blk) ∧ V.cell? ⟨b, o + k * 9 + 5, none⟩ = some (.bool mrk) ∧ V.cell? ⟨b, o + k * 9 + 6, none⟩ = some (.int .i64 fol) ∧ V.cell? ⟨b, o + k * 9 + 7, none⟩ = some (.string lnk) ∧ V.cell? ⟨b, o + k * 9 + 8, none⟩ = some (.int .i64 lps) ∧ b < V.heap.size from fun V hV => by
        obtain ⟨q0, q1, q2, q3, q4, q5, q6, q7, q8⟩ := hck
        exact ⟨(hV.cell (p := ⟨b, o + k * 9, none⟩) hbl).trans q0, (hV.cell (p := ⟨b, o + k * 9 + 1, none⟩) hbl).trans q1, (hV.cell (p := ⟨b, o + k * 9 + 2, none⟩) hbl).trans q2, (hV.cell (p := ⟨b, o + k * 9 + 3, none⟩) hbl).trans q3, (hV.cell (p := ⟨b, o + k * 9 + 4, none⟩) hbl).trans q4, (hV.cell (p := ⟨b, o + k * 9 + 5, none⟩) hbl).trans q5, (hV.cell (p := ⟨b, o + k * 9 + 6, none⟩) hbl).trans q6, (hV.cell (p := ⟨b, o + k * 9 + 7, none⟩) hbl).trans q7, (hV.cell (p := ⟨b, o + k * 9 + 8, none⟩) hbl).trans q8, Nat.lt_of_lt_of_le hbl hV.size⟩)
      obtain ⟨q0, q1, q2, q3, q4, q5, q6, q7, q8, hbw⟩ := HQk.out _ hB
      have HF := Lib.hid (show num.size ≤ 9223372036854775807 from hfk.1)
      have HCu := Lib.hid (rcue_any num lab MA mn mc PA pn pc blk mrk fol lnk lps ms ts wr (hXk.below hB) hfk.1 hfk.2)
      clear hck hXk hfk
      go_wp2_with fail
      refine HCu.out.mono ?_
      rintro e w5 ⟨⟨E5, rfl, h5⟩, hb⟩
      replace hB := hB.trans (hb.mono hB.size)
      clear hb HCu c0 c1 c2 hsz q0 q1 q2 q3 q4 q5 q6 q7 q8 hbw
      obtain ⟨c0, c1, c2, hsz⟩ := HK.out _ hB
      obtain ⟨q0, q1, q2, q3, q4, q5, q6, q7, q8, hbw⟩ := HQk.out _ hB
      by_cases e5 : E5 = 0
      rotate_left
      · have g5 : (E5 != 0) = true := by simpa using e5
        go_wp2_with fail
        go_ret
        exact ⟨⟨_, rfl, fun h => absurd h e5⟩, HB0.out.trans (hB.mono HB0.out.size)⟩
      subst e5
      have HCk := Lib.hid (h5 rfl)
      clear h5
      by_cases hk0 : 0 < k
      rotate_left
      · have gk : ¬ (0 : Int) < (k : Int) := by omega
        go_wp2_with fail
        replace hB := below_drewN hB 1
        refine wp_region_held_drew (S := fun _ => True) (by kernel_rfl) (by first | exact trivial) (fun hHeld => ?_)
        refine wpAnyH_take (i := 0) (oi := ?_) (v := ?_) ?_ (by kernel_rfl) (by kernel_rfl) (by kernel_rfl) ?_ (Or.inl ⟨?_, ?_⟩) (by assumption) ?_
        rotate_left 2
        · (simp only [List.getElem?_toArray, List.getElem?_cons_zero]; rfl)
        · exact fun _ _ _ h => h
        · rfl
        · (intro w hSw; (try dsimp only at hSw); go_simp; try with_reducible rfl)
        simp only [Act.put, List.setIfInBounds_toArray, List.set_cons_zero, List.set_cons_succ]
        refine wpAnyH_take (i := 1) (oi := ?_) (v := ?_) ?_ (by kernel_rfl) (by kernel_rfl) (by kernel_rfl) ?_ (Or.inl ⟨?_, ?_⟩) (by assumption) ?_
        rotate_left 2
        · (simp only [List.getElem?_toArray, List.getElem?_cons_succ, List.getElem?_cons_zero]; rfl)
        · exact fun _ _ _ h => h
        · rfl
        · (intro w hSw; (try dsimp only at hSw); go_simp; try with_reducible rfl)
        simp only [Act.put, List.setIfInBounds_toArray, List.set_cons_zero, List.set_cons_succ]
        refine wpAnyH_take (i := 2) (oi := ?_) (v := ?_) ?_ (by kernel_rfl) (by kernel_rfl) (by kernel_rfl) ?_ (Or.inl ⟨?_, ?_⟩) (by assumption) ?_
        rotate_left 2
        · (simp only [List.getElem?_toArray, List.getElem?_cons_succ, List.getElem?_cons_zero]; rfl)
        · exact fun _ _ _ h => h
        · rfl
        · (intro w hSw; (try dsimp only at hSw); go_simp; try with_reducible rfl)
        simp only [Act.put, List.setIfInBounds_toArray, List.set_cons_zero, List.set_cons_succ]
        refine wpAnyH_take (i := 3) (oi := ?_) (v := undef) ?_ (by kernel_rfl) (by kernel_rfl) (by kernel_rfl) ?_ (Or.inr ⟨?_, rfl⟩) (by assumption) ?_
        rotate_left 1
        · (simp only [List.getElem?_toArray, List.getElem?_cons_succ, List.getElem?_cons_zero]; rfl)
        · exact fun _ _ _ h => h
        · rfl
        simp only [Act.put, List.setIfInBounds_toArray, List.set_cons_zero, List.set_cons_succ]
        refine wpAnyH_take (i := 4) (oi := ?_) (v := undef) ?_ (by kernel_rfl) (by kernel_rfl) (by kernel_rfl) ?_ (Or.inr ⟨?_, rfl⟩) (by assumption) ?_
        rotate_left 1
        · (simp only [List.getElem?_toArray, List.getElem?_cons_succ, List.getElem?_cons_zero]; rfl)
        · exact fun _ _ _ h => h
        · rfl
        simp only [Act.put, List.setIfInBounds_toArray, List.set_cons_zero, List.set_cons_succ]
        refine wpAnyH_take (i := 5) (oi := ?_) (v := undef) ?_ (by kernel_rfl) (by kernel_rfl) (by kernel_rfl) ?_ (Or.inr ⟨?_, rfl⟩) (by assumption) ?_
        rotate_left 1
        · (simp only [List.getElem?_toArray, List.getElem?_cons_succ, List.getElem?_cons_zero]; rfl)
        · exact fun _ _ _ h => h
        · rfl
        simp only [Act.put, List.setIfInBounds_toArray, List.set_cons_zero, List.set_cons_succ]
        refine wpAnyH_take (i := 6) (oi := ?_) (v := undef) ?_ (by kernel_rfl) (by kernel_rfl) (by kernel_rfl) ?_ (Or.inr ⟨?_, rfl⟩) (by assumption) ?_
        rotate_left 1
        · (simp only [List.getElem?_toArray, List.getElem?_cons_succ, List.getElem?_cons_zero]; rfl)
        · exact fun _ _ _ h => h
        · rfl
        simp only [Act.put, List.setIfInBounds_toArray, List.set_cons_zero, List.set_cons_succ]
        refine wpAnyH_take (i := 7) (oi := ?_) (v := undef) ?_ (by kernel_rfl) (by kernel_rfl) (by kernel_rfl) ?_ (Or.inr ⟨?_, rfl⟩) (by assumption) ?_
        rotate_left 1
        · (simp only [List.getElem?_toArray, List.getElem?_cons_succ, List.getElem?_cons_zero]; rfl)
        · exact fun _ _ _ h => h
        · rfl
        simp only [Act.put, List.setIfInBounds_toArray, List.set_cons_zero, List.set_cons_succ]
        refine wpAnyH_take (i := 8) (oi := ?_) (v := undef) ?_ (by kernel_rfl) (by kernel_rfl) (by kernel_rfl) ?_ (Or.inr ⟨?_, rfl⟩) (by assumption) ?_
        rotate_left 1
        · (simp only [List.getElem?_toArray, List.getElem?_cons_succ, List.getElem?_cons_zero]; rfl)
        · exact fun _ _ _ h => h
        · rfl
        simp only [Act.put, List.setIfInBounds_toArray, List.set_cons_zero, List.set_cons_succ]
        refine wpAnyH_take (i := 9) (oi := ?_) (v := undef) ?_ (by kernel_rfl) (by kernel_rfl) (by kernel_rfl) ?_ (Or.inr ⟨?_, rfl⟩) (by assumption) ?_
        rotate_left 1
        · (simp only [List.getElem?_toArray, List.getElem?_cons_succ, List.getElem?_cons_zero]; rfl)
        · exact fun _ _ _ h => h
        · rfl
        simp only [Act.put, List.setIfInBounds_toArray, List.set_cons_zero, List.set_cons_succ]
        refine wpAnyH_take (i := 10) (oi := ?_) (v := undef) ?_ (by kernel_rfl) (by kernel_rfl) (by kernel_rfl) ?_ (Or.inr ⟨?_, rfl⟩) (by assumption) ?_
        rotate_left 1
        · (simp only [List.getElem?_toArray, List.getElem?_cons_succ, List.getElem?_cons_zero]; rfl)
        · exact fun _ _ _ h => h
        · rfl
        simp only [Act.put, List.setIfInBounds_toArray, List.set_cons_zero, List.set_cons_succ]
        refine wpAnyH_take (i := 11) (oi := ?_) (v := undef) ?_ (by kernel_rfl) (by kernel_rfl) (by kernel_rfl) ?_ (Or.inr ⟨?_, rfl⟩) (by assumption) ?_
        rotate_left 1
        · (simp only [List.getElem?_toArray, List.getElem?_cons_succ, List.getElem?_cons_zero]; rfl)
        · exact fun _ _ _ h => h
        · rfl
        simp only [Act.put, List.setIfInBounds_toArray, List.set_cons_zero, List.set_cons_succ]
        refine wpAnyH_take (i := 12) (oi := ?_) (v := undef) ?_ (by kernel_rfl) (by kernel_rfl) (by kernel_rfl) ?_ (Or.inr ⟨?_, rfl⟩) (by assumption) ?_
        rotate_left 1
        · (simp only [List.getElem?_toArray, List.getElem?_cons_succ, List.getElem?_cons_zero]; rfl)
        · exact fun _ _ _ h => h
        · rfl
        simp only [Act.put, List.setIfInBounds_toArray, List.set_cons_zero, List.set_cons_succ]
        refine wpAnyH_take (i := 13) (oi := ?_) (v := undef) ?_ (by kernel_rfl) (by kernel_rfl) (by kernel_rfl) ?_ (Or.inr ⟨?_, rfl⟩) (by assumption) ?_
        rotate_left 1
        · (simp only [List.getElem?_toArray, List.getElem?_cons_succ, List.getElem?_cons_zero]; rfl)
        · exact fun _ _ _ h => h
        · rfl
        simp only [Act.put, List.setIfInBounds_toArray, List.set_cons_zero, List.set_cons_succ]
        refine wpAnyH_take (i := 14) (oi := ?_) (v := undef) ?_ (by kernel_rfl) (by kernel_rfl) (by kernel_rfl) ?_ (Or.inr ⟨?_, rfl⟩) (by assumption) ?_
        rotate_left 1
        · (simp only [List.getElem?_toArray, List.getElem?_cons_succ, List.getElem?_cons_zero]; rfl)
        · exact fun _ _ _ h => h
        · rfl
        simp only [Act.put, List.setIfInBounds_toArray, List.set_cons_zero, List.set_cons_succ]
        refine wpAnyH_take (i := 15) (oi := ?_) (v := undef) ?_ (by kernel_rfl) (by kernel_rfl) (by kernel_rfl) ?_ (Or.inr ⟨?_, rfl⟩) (by assumption) ?_
        rotate_left 1
        · (simp only [List.getElem?_toArray, List.getElem?_cons_succ, List.getElem?_cons_zero]; rfl)
        · exact fun _ _ _ h => h
        · rfl
        simp only [Act.put, List.setIfInBounds_toArray, List.set_cons_zero, List.set_cons_succ]
        refine wpAnyH_take (i := 16) (oi := ?_) (v := undef) ?_ (by kernel_rfl) (by kernel_rfl) (by kernel_rfl) ?_ (Or.inr ⟨?_, rfl⟩) (by assumption) ?_
        rotate_left 1
        · (simp only [List.getElem?_toArray, List.getElem?_cons_succ, List.getElem?_cons_zero]; rfl)
        · exact fun _ _ _ h => h
        · rfl
        simp only [Act.put, List.setIfInBounds_toArray, List.set_cons_zero, List.set_cons_succ]
        refine wpAnyH_take (i := 17) (oi := ?_) (v := undef) ?_ (by kernel_rfl) (by kernel_rfl) (by kernel_rfl) ?_ (Or.inr ⟨?_, rfl⟩) (by assumption) ?_
        rotate_left 1
        · (simp only [List.getElem?_toArray, List.getElem?_cons_succ, List.getElem?_cons_zero]; rfl)
        · exact fun _ _ _ h => h
        · rfl
        simp only [Act.put, List.setIfInBounds_toArray, List.set_cons_zero, List.set_cons_succ]
        refine wpAnyH_take (i := 18) (oi := ?_) (v := ?_) ?_ (by kernel_rfl) (by kernel_rfl) (by kernel_rfl) ?_ (Or.inl ⟨?_, ?_⟩) (by assumption) ?_
        rotate_left 2
        · (simp only [List.getElem?_toArray, List.getElem?_cons_succ, List.getElem?_cons_zero]; rfl)
        · exact fun _ _ _ h => h
        · rfl
        · (intro w hSw; (try dsimp only at hSw); go_simp; try with_reducible rfl)
        simp only [Act.put, List.setIfInBounds_toArray, List.set_cons_zero, List.set_cons_succ]
        refine wpAnyH_done (by kernel_rfl) ?_ _
        go_wp2_with fail
        go_roundw
        case rel => exact ⟨k + 1, by omega, by go_num, hB, HA1.out HCk.out, HU1.out (fun h => absurd h hk0)⟩
        case measure => simp [intOf]; omega
      · have gk : (0 : Int) < (k : Int) := by omega
        have w1 : IntKind.i64.wrap ((k : Int) - 1) = (k : Int) - 1 := IntWalk.i64_in _ (by have := HN.out; omega)
        have j0 : (0 : Int) ≤ (k : Int) - 1 := by omega
        have j0b : (1 : Int) ≤ (k : Int) := by omega
        have j1 : (k : Int) - 1 < (X.length : Int) := by omega
        have jn : ((k : Int) - 1).toNat = k - 1 := by omega
        obtain ⟨y, hyf, hyo, hyc, hye⟩ := HQ.out hk0
        have HQy := Lib.hid hyc
        have HO := Lib.hid (fun w => rorder_any y.c.num num w hyf.1 hyo.num HF.out HCk.out.num)
        have HLt := Lib.hid (show ordI (numV y.c.num.data.toList) (numV num.data.toList) < 0 → ∀ h0 : 0 < k, ltN (X[k - 1]'(by omega)) ⟨⟨num, lab, MA, mn, mc, PA, pn, pc, blk, mrk, fol, lnk, lps⟩, ms, ts⟩ from fun h _ => by
          rw [hye (by omega)]
          unfold ordI at h
          show numV y.c.num.data.toList < numV num.data.toList
          by_cases h7 : (numV y.c.num.data.toList : Int) < (numV num.data.toList : Int)
          · omega
          · rw [if_neg h7] at h
            by_cases h8 : (numV num.data.toList : Int) < (numV y.c.num.data.toList : Int)
            · rw [if_pos h8] at h; omega
            · rw [if_neg h8] at h; omega)
        generalize ordI (numV y.c.num.data.toList) (numV num.data.toList) = od at *
        generalize y.c.num = ny at *
        clear hyf hyo hyc hye
        by_cases ho : 0 ≤ od
        · go_wp2_with fail
          replace hB := below_drewN hB 1
          obtain ⟨c0, c1, c2, hsz⟩ := HK.out _ hB
          obtain ⟨q0, q1, q2, q3, q4, q5, q6, q7, q8, hbw⟩ := HQk.out _ hB
          have y0 := HQy.out _ hB
          refine wp_region_held_drew (S := fun w' => w'.cell? ⟨w.heap.size, 2, none⟩ = some (.slice (some ⟨b, o, none⟩) X.length c) ∧ w'.cell? ⟨b, o + (k - 1) * 9, none⟩ = some (.string ny) ∧ w'.cell? ⟨b, o + k * 9, none⟩ = some (.string num)) (by kernel_rfl) (by first | exact ⟨c2, y0, q0⟩) (fun hHeld => ?_)
          refine wpAnyH_take (i := 0) (oi := ?_) (v := ?_) ?_ (by kernel_rfl) (by kernel_rfl) (by kernel_rfl) ?_ (Or.inl ⟨?_, ?_⟩) (by assumption) ?_
          rotate_left 2
          · (simp only [List.getElem?_toArray, List.getElem?_cons_zero]; rfl)
          · exact fun _ _ _ h => h
          · rfl
          · (intro w hSw; (try dsimp only at hSw); go_simp; try with_reducible rfl)
          simp only [Act.put, List.setIfInBounds_toArray, List.set_cons_zero, List.set_cons_succ]
          refine wpAnyH_take (i := 1) (oi := ?_) (v := ?_) ?_ (by kernel_rfl) (by kernel_rfl) (by kernel_rfl) ?_ (Or.inl ⟨?_, ?_⟩) (by assumption) ?_
          rotate_left 2
          · (simp only [List.getElem?_toArray, List.getElem?_cons_succ, List.getElem?_cons_zero]; rfl)
          · exact fun _ _ _ h => h
          · rfl
          · (intro w hSw; (try dsimp only at hSw); go_simp; try with_reducible rfl)
          simp only [Act.put, List.setIfInBounds_toArray, List.set_cons_zero, List.set_cons_succ]
          refine wpAnyH_take (i := 2) (oi := ?_) (v := ?_) ?_ (by kernel_rfl) (by kernel_rfl) (by kernel_rfl) ?_ (Or.inl ⟨?_, ?_⟩) (by assumption) ?_
          rotate_left 2
          · (simp only [List.getElem?_toArray, List.getElem?_cons_succ, List.getElem?_cons_zero]; rfl)
          · exact fun _ _ _ h => h
          · rfl
          · (intro w hSw; (try dsimp only at hSw); go_simp; try with_reducible rfl)
          simp only [Act.put, List.setIfInBounds_toArray, List.set_cons_zero, List.set_cons_succ]
          refine wpAnyH_take (i := 3) (oi := ?_) (v := ?_) ?_ (by kernel_rfl) (by kernel_rfl) (by kernel_rfl) ?_ (Or.inl ⟨?_, ?_⟩) (by assumption) ?_
          rotate_left 2
          · (simp only [List.getElem?_toArray, List.getElem?_cons_succ, List.getElem?_cons_zero]; rfl)
          · exact fun _ _ _ h => h
          · rfl
          · (intro w hSw; (try dsimp only at hSw); go_simp; try with_reducible rfl)
          simp only [Act.put, List.setIfInBounds_toArray, List.set_cons_zero, List.set_cons_succ]
          refine wpAnyH_take (i := 4) (oi := ?_) (v := ?_) ?_ (by kernel_rfl) (by kernel_rfl) (by kernel_rfl) ?_ (Or.inl ⟨?_, ?_⟩) (by assumption) ?_
          rotate_left 2
          · (simp only [List.getElem?_toArray, List.getElem?_cons_succ, List.getElem?_cons_zero]; rfl)
          · exact fun _ _ _ h => h
          · rfl
          · (intro w hSw; (try dsimp only at hSw); go_simp; try with_reducible rfl)
          simp only [Act.put, List.setIfInBounds_toArray, List.set_cons_zero, List.set_cons_succ]
          refine wpAnyH_take (i := 5) (oi := ?_) (v := ?_) ?_ (by kernel_rfl) (by kernel_rfl) (by kernel_rfl) ?_ (Or.inl ⟨?_, ?_⟩) (by assumption) ?_
          rotate_left 2
          · (simp only [List.getElem?_toArray, List.getElem?_cons_succ, List.getElem?_cons_zero]; rfl)
          · exact fun _ _ _ h => h
          · rfl
          · (intro w hSw; (try dsimp only at hSw); go_simp; try with_reducible rfl)
          simp only [Act.put, List.setIfInBounds_toArray, List.set_cons_zero, List.set_cons_succ]
          refine wpAnyH_take (i := 6) (oi := ?_) (v := ?_) ?_ (by kernel_rfl) (by kernel_rfl) (by kernel_rfl) ?_ (Or.inl ⟨?_, ?_⟩) (by assumption) ?_
          rotate_left 2
          · (simp only [List.getElem?_toArray, List.getElem?_cons_succ, List.getElem?_cons_zero]; rfl)
          · exact fun _ _ _ h => h
          · rfl
          · (intro w hSw; (try dsimp only at hSw); go_simp; try with_reducible rfl)
          simp only [Act.put, List.setIfInBounds_toArray, List.set_cons_zero, List.set_cons_succ]
          refine wpAnyH_take (i := 7) (oi := ?_) (v := ?_) ?_ (by kernel_rfl) (by kernel_rfl) (by kernel_rfl) ?_ (Or.inl ⟨?_, ?_⟩) (by assumption) ?_
          rotate_left 2
          · (simp only [List.getElem?_toArray, List.getElem?_cons_succ, List.getElem?_cons_zero]; rfl)
          · exact fun _ _ _ h => h
          · rfl
          · (intro w hSw; (try dsimp only at hSw); go_simp; try with_reducible rfl)
          simp only [Act.put, List.setIfInBounds_toArray, List.set_cons_zero, List.set_cons_succ]
          refine wpAnyH_take (i := 8) (oi := ?_) (v := ?_) ?_ (by kernel_rfl) (by kernel_rfl) (by kernel_rfl) ?_ (Or.inl ⟨?_, ?_⟩) (by assumption) ?_
          rotate_left 2
          · (simp only [List.getElem?_toArray, List.getElem?_cons_succ, List.getElem?_cons_zero]; rfl)
          · exact fun _ _ _ h => h
          · rfl
          · (intro w hSw; (try dsimp only at hSw); go_simp; try with_reducible rfl)
          simp only [Act.put, List.setIfInBounds_toArray, List.set_cons_zero, List.set_cons_succ]
          refine wpAnyH_take (i := 9) (oi := ?_) (v := ?_) ?_ (by kernel_rfl) (by kernel_rfl) (by kernel_rfl) ?_ (Or.inl ⟨?_, ?_⟩) (by assumption) ?_
          rotate_left 2
          · (simp only [List.getElem?_toArray, List.getElem?_cons_succ, List.getElem?_cons_zero]; rfl)
          · exact fun _ _ _ h => h
          · rfl
          · (intro w hSw; (try dsimp only at hSw); go_simp; try with_reducible rfl)
          simp only [Act.put, List.setIfInBounds_toArray, List.set_cons_zero, List.set_cons_succ]
          refine wpAnyH_take (i := 10) (oi := ?_) (v := ?_) ?_ (by kernel_rfl) (by kernel_rfl) (by kernel_rfl) ?_ (Or.inl ⟨?_, ?_⟩) (by assumption) ?_
          rotate_left 2
          · (simp only [List.getElem?_toArray, List.getElem?_cons_succ, List.getElem?_cons_zero]; rfl)
          · exact fun _ _ _ h => h
          · rfl
          · (intro w hSw; (try dsimp only at hSw); go_simp; try with_reducible rfl)
          simp only [Act.put, List.setIfInBounds_toArray, List.set_cons_zero, List.set_cons_succ]
          refine wpAnyH_take (i := 11) (oi := ?_) (v := ?_) ?_ (by kernel_rfl) (by kernel_rfl) (by kernel_rfl) ?_ (Or.inl ⟨?_, ?_⟩) (by assumption) ?_
          rotate_left 2
          · (simp only [List.getElem?_toArray, List.getElem?_cons_succ, List.getElem?_cons_zero]; rfl)
          · exact fun _ _ _ h => h
          · rfl
          · (intro w hSw; (try dsimp only at hSw); go_simp; try with_reducible rfl)
          simp only [Act.put, List.setIfInBounds_toArray, List.set_cons_zero, List.set_cons_succ]
          refine wpAnyH_take (i := 12) (oi := ?_) (v := ?_) ?_ (by kernel_rfl) (by kernel_rfl) (by kernel_rfl) ?_ (Or.inl ⟨?_, ?_⟩) (by assumption) ?_
          rotate_left 2
          · (simp only [List.getElem?_toArray, List.getElem?_cons_succ, List.getElem?_cons_zero]; rfl)
          · exact fun _ _ _ h => h
          · rfl
          · (intro w hSw; (try dsimp only at hSw); go_simp; try with_reducible rfl)
          simp only [Act.put, List.setIfInBounds_toArray, List.set_cons_zero, List.set_cons_succ]
          refine wpAnyH_take (i := 13) (oi := ?_) (v := ?_) ?_ (by kernel_rfl) (by kernel_rfl) (by kernel_rfl) ?_ (Or.inl ⟨?_, ?_⟩) (by assumption) ?_
          rotate_left 2
          · (simp only [List.getElem?_toArray, List.getElem?_cons_succ, List.getElem?_cons_zero]; rfl)
          · exact fun _ _ _ h => h
          · rfl
          · (intro w hSw; (try dsimp only at hSw); go_simp; try with_reducible rfl)
          simp only [Act.put, List.setIfInBounds_toArray, List.set_cons_zero, List.set_cons_succ]
          refine wpAnyH_take (i := 14) (oi := ?_) (v := ?_) ?_ (by kernel_rfl) (by kernel_rfl) (by kernel_rfl) ?_ (Or.inl ⟨?_, ?_⟩) (by assumption) ?_
          rotate_left 2
          · (simp only [List.getElem?_toArray, List.getElem?_cons_succ, List.getElem?_cons_zero]; rfl)
          · exact fun _ _ _ h => h
          · rfl
          · (intro w hSw; (try dsimp only at hSw); go_simp; try with_reducible rfl)
          simp only [Act.put, List.setIfInBounds_toArray, List.set_cons_zero, List.set_cons_succ]
          refine wpAnyH_take (i := 15) (oi := ?_) (v := ?_) ?_ (by kernel_rfl) (by kernel_rfl) (by kernel_rfl) ?_ (Or.inl ⟨?_, ?_⟩) (by assumption) ?_
          rotate_left 2
          · (simp only [List.getElem?_toArray, List.getElem?_cons_succ, List.getElem?_cons_zero]; rfl)
          · exact fun _ _ _ h => h
          · rfl
          · (intro w hSw; (try dsimp only at hSw); go_simp; try with_reducible rfl)
          simp only [Act.put, List.setIfInBounds_toArray, List.set_cons_zero, List.set_cons_succ]
          refine wpAnyH_ready (rs := [16]) (by kernel_rfl) (by simp) ?_
          refine AllReadyH.cons rfl (fun K hK => ?_) AllReadyH.nil
          go_simp
          go_at_call 29; refine (HO.out _).mono ?_; rintro e w9 ⟨rfl, n9, rfl⟩; replace hB := below_drewN hB n9; obtain ⟨c0, c1, c2, hsz⟩ := HK.out _ hB; obtain ⟨q0, q1, q2, q3, q4, q5, q6, q7, q8, hbw⟩ := HQk.out _ hB; have y0 := HQy.out _ hB
          go_wp2_with fail
          refine hK.out _ _ (by first | exact ⟨c2, y0, q0⟩) (fun hHeld => ?_)
          clear hK K
          try simp only [Act.put, List.setIfInBounds_toArray, List.set_cons_zero, List.set_cons_succ]
          refine wpAnyH_take (i := 17) (oi := ?_) (v := ?_) ?_ (by kernel_rfl) (by kernel_rfl) (by kernel_rfl) ?_ (Or.inl ⟨?_, ?_⟩) (by assumption) ?_
          rotate_left 2
          · (simp only [List.getElem?_toArray, List.getElem?_cons_succ, List.getElem?_cons_zero]; rfl)
          · exact fun _ _ _ h => h
          · rfl
          · (intro w hSw; (try dsimp only at hSw); go_simp; try with_reducible rfl)
          simp only [Act.put, List.setIfInBounds_toArray, List.set_cons_zero, List.set_cons_succ]
          refine wpAnyH_take (i := 18) (oi := ?_) (v := ?_) ?_ (by kernel_rfl) (by kernel_rfl) (by kernel_rfl) ?_ (Or.inl ⟨?_, ?_⟩) (by assumption) ?_
          rotate_left 2
          · (simp only [List.getElem?_toArray, List.getElem?_cons_succ, List.getElem?_cons_zero]; rfl)
          · exact fun _ _ _ h => h
          · rfl
          · (intro w hSw; (try dsimp only at hSw); go_simp; try with_reducible rfl)
          simp only [Act.put, List.setIfInBounds_toArray, List.set_cons_zero, List.set_cons_succ]
          refine wpAnyH_done (by kernel_rfl) ?_ _
          rw [World.drewN_drewN] at hB
          go_wp2_with fail
          go_ret
          exact ⟨⟨9, rfl, fun h => by cases h⟩, HB0.out.trans (hB.mono HB0.out.size)⟩
        · have HO2 := Lib.hid (HLt.out (by omega))
          go_wp2_with fail
          replace hB := below_drewN hB 1
          obtain ⟨c0, c1, c2, hsz⟩ := HK.out _ hB
          obtain ⟨q0, q1, q2, q3, q4, q5, q6, q7, q8, hbw⟩ := HQk.out _ hB
          have y0 := HQy.out _ hB
          refine wp_region_held_drew (S := fun w' => w'.cell? ⟨w.heap.size, 2, none⟩ = some (.slice (some ⟨b, o, none⟩) X.length c) ∧ w'.cell? ⟨b, o + (k - 1) * 9, none⟩ = some (.string ny) ∧ w'.cell? ⟨b, o + k * 9, none⟩ = some (.string num)) (by kernel_rfl) (by first | exact ⟨c2, y0, q0⟩) (fun hHeld => ?_)
          refine wpAnyH_take (i := 0) (oi := ?_) (v := ?_) ?_ (by kernel_rfl) (by kernel_rfl) (by kernel_rfl) ?_ (Or.inl ⟨?_, ?_⟩) (by assumption) ?_
          rotate_left 2
          · (simp only [List.getElem?_toArray, List.getElem?_cons_zero]; rfl)
          · exact fun _ _ _ h => h
          · rfl
          · (intro w hSw; (try dsimp only at hSw); go_simp; try with_reducible rfl)
          simp only [Act.put, List.setIfInBounds_toArray, List.set_cons_zero, List.set_cons_succ]
          refine wpAnyH_take (i := 1) (oi := ?_) (v := ?_) ?_ (by kernel_rfl) (by kernel_rfl) (by kernel_rfl) ?_ (Or.inl ⟨?_, ?_⟩) (by assumption) ?_
          rotate_left 2
          · (simp only [List.getElem?_toArray, List.getElem?_cons_succ, List.getElem?_cons_zero]; rfl)
          · exact fun _ _ _ h => h
          · rfl
          · (intro w hSw; (try dsimp only at hSw); go_simp; try with_reducible rfl)
          simp only [Act.put, List.setIfInBounds_toArray, List.set_cons_zero, List.set_cons_succ]
          refine wpAnyH_take (i := 2) (oi := ?_) (v := ?_) ?_ (by kernel_rfl) (by kernel_rfl) (by kernel_rfl) ?_ (Or.inl ⟨?_, ?_⟩) (by assumption) ?_
          rotate_left 2
          · (simp only [List.getElem?_toArray, List.getElem?_cons_succ, List.getElem?_cons_zero]; rfl)
          · exact fun _ _ _ h => h
          · rfl
          · (intro w hSw; (try dsimp only at hSw); go_simp; try with_reducible rfl)
          simp only [Act.put, List.setIfInBounds_toArray, List.set_cons_zero, List.set_cons_succ]
          refine wpAnyH_take (i := 3) (oi := ?_) (v := ?_) ?_ (by kernel_rfl) (by kernel_rfl) (by kernel_rfl) ?_ (Or.inl ⟨?_, ?_⟩) (by assumption) ?_
          rotate_left 2
          · (simp only [List.getElem?_toArray, List.getElem?_cons_succ, List.getElem?_cons_zero]; rfl)
          · exact fun _ _ _ h => h
          · rfl
          · (intro w hSw; (try dsimp only at hSw); go_simp; try with_reducible rfl)
          simp only [Act.put, List.setIfInBounds_toArray, List.set_cons_zero, List.set_cons_succ]
          refine wpAnyH_take (i := 4) (oi := ?_) (v := ?_) ?_ (by kernel_rfl) (by kernel_rfl) (by kernel_rfl) ?_ (Or.inl ⟨?_, ?_⟩) (by assumption) ?_
          rotate_left 2
          · (simp only [List.getElem?_toArray, List.getElem?_cons_succ, List.getElem?_cons_zero]; rfl)
          · exact fun _ _ _ h => h
          · rfl
          · (intro w hSw; (try dsimp only at hSw); go_simp; try with_reducible rfl)
          simp only [Act.put, List.setIfInBounds_toArray, List.set_cons_zero, List.set_cons_succ]
          refine wpAnyH_take (i := 5) (oi := ?_) (v := ?_) ?_ (by kernel_rfl) (by kernel_rfl) (by kernel_rfl) ?_ (Or.inl ⟨?_, ?_⟩) (by assumption) ?_
          rotate_left 2
          · (simp only [List.getElem?_toArray, List.getElem?_cons_succ, List.getElem?_cons_zero]; rfl)
          · exact fun _ _ _ h => h
          · rfl
          · (intro w hSw; (try dsimp only at hSw); go_simp; try with_reducible rfl)
          simp only [Act.put, List.setIfInBounds_toArray, List.set_cons_zero, List.set_cons_succ]
          refine wpAnyH_take (i := 6) (oi := ?_) (v := ?_) ?_ (by kernel_rfl) (by kernel_rfl) (by kernel_rfl) ?_ (Or.inl ⟨?_, ?_⟩) (by assumption) ?_
          rotate_left 2
          · (simp only [List.getElem?_toArray, List.getElem?_cons_succ, List.getElem?_cons_zero]; rfl)
          · exact fun _ _ _ h => h
          · rfl
          · (intro w hSw; (try dsimp only at hSw); go_simp; try with_reducible rfl)
          simp only [Act.put, List.setIfInBounds_toArray, List.set_cons_zero, List.set_cons_succ]
          refine wpAnyH_take (i := 7) (oi := ?_) (v := ?_) ?_ (by kernel_rfl) (by kernel_rfl) (by kernel_rfl) ?_ (Or.inl ⟨?_, ?_⟩) (by assumption) ?_
          rotate_left 2
          · (simp only [List.getElem?_toArray, List.getElem?_cons_succ, List.getElem?_cons_zero]; rfl)
          · exact fun _ _ _ h => h
          · rfl
          · (intro w hSw; (try dsimp only at hSw); go_simp; try with_reducible rfl)
          simp only [Act.put, List.setIfInBounds_toArray, List.set_cons_zero, List.set_cons_succ]
          refine wpAnyH_take (i := 8) (oi := ?_) (v := ?_) ?_ (by kernel_rfl) (by kernel_rfl) (by kernel_rfl) ?_ (Or.inl ⟨?_, ?_⟩) (by assumption) ?_
          rotate_left 2
          · (simp only [List.getElem?_toArray, List.getElem?_cons_succ, List.getElem?_cons_zero]; rfl)
          · exact fun _ _ _ h => h
          · rfl
          · (intro w hSw; (try dsimp only at hSw); go_simp; try with_reducible rfl)
          simp only [Act.put, List.setIfInBounds_toArray, List.set_cons_zero, List.set_cons_succ]
          refine wpAnyH_take (i := 9) (oi := ?_) (v := ?_) ?_ (by kernel_rfl) (by kernel_rfl) (by kernel_rfl) ?_ (Or.inl ⟨?_, ?_⟩) (by assumption) ?_
          rotate_left 2
          · (simp only [List.getElem?_toArray, List.getElem?_cons_succ, List.getElem?_cons_zero]; rfl)
          · exact fun _ _ _ h => h
          · rfl
          · (intro w hSw; (try dsimp only at hSw); go_simp; try with_reducible rfl)
          simp only [Act.put, List.setIfInBounds_toArray, List.set_cons_zero, List.set_cons_succ]
          refine wpAnyH_take (i := 10) (oi := ?_) (v := ?_) ?_ (by kernel_rfl) (by kernel_rfl) (by kernel_rfl) ?_ (Or.inl ⟨?_, ?_⟩) (by assumption) ?_
          rotate_left 2
          · (simp only [List.getElem?_toArray, List.getElem?_cons_succ, List.getElem?_cons_zero]; rfl)
          · exact fun _ _ _ h => h
          · rfl
          · (intro w hSw; (try dsimp only at hSw); go_simp; try with_reducible rfl)
          simp only [Act.put, List.setIfInBounds_toArray, List.set_cons_zero, List.set_cons_succ]
          refine wpAnyH_take (i := 11) (oi := ?_) (v := ?_) ?_ (by kernel_rfl) (by kernel_rfl) (by kernel_rfl) ?_ (Or.inl ⟨?_, ?_⟩) (by assumption) ?_
          rotate_left 2
          · (simp only [List.getElem?_toArray, List.getElem?_cons_succ, List.getElem?_cons_zero]; rfl)
          · exact fun _ _ _ h => h
          · rfl
          · (intro w hSw; (try dsimp only at hSw); go_simp; try with_reducible rfl)
          simp only [Act.put, List.setIfInBounds_toArray, List.set_cons_zero, List.set_cons_succ]
          refine wpAnyH_take (i := 12) (oi := ?_) (v := ?_) ?_ (by kernel_rfl) (by kernel_rfl) (by kernel_rfl) ?_ (Or.inl ⟨?_, ?_⟩) (by assumption) ?_
          rotate_left 2
          · (simp only [List.getElem?_toArray, List.getElem?_cons_succ, List.getElem?_cons_zero]; rfl)
          · exact fun _ _ _ h => h
          · rfl
          · (intro w hSw; (try dsimp only at hSw); go_simp; try with_reducible rfl)
          simp only [Act.put, List.setIfInBounds_toArray, List.set_cons_zero, List.set_cons_succ]
          refine wpAnyH_take (i := 13) (oi := ?_) (v := ?_) ?_ (by kernel_rfl) (by kernel_rfl) (by kernel_rfl) ?_ (Or.inl ⟨?_, ?_⟩) (by assumption) ?_
          rotate_left 2
          · (simp only [List.getElem?_toArray, List.getElem?_cons_succ, List.getElem?_cons_zero]; rfl)
          · exact fun _ _ _ h => h
          · rfl
          · (intro w hSw; (try dsimp only at hSw); go_simp; try with_reducible rfl)
          simp only [Act.put, List.setIfInBounds_toArray, List.set_cons_zero, List.set_cons_succ]
          refine wpAnyH_take (i := 14) (oi := ?_) (v := ?_) ?_ (by kernel_rfl) (by kernel_rfl) (by kernel_rfl) ?_ (Or.inl ⟨?_, ?_⟩) (by assumption) ?_
          rotate_left 2
          · (simp only [List.getElem?_toArray, List.getElem?_cons_succ, List.getElem?_cons_zero]; rfl)
          · exact fun _ _ _ h => h
          · rfl
          · (intro w hSw; (try dsimp only at hSw); go_simp; try with_reducible rfl)
          simp only [Act.put, List.setIfInBounds_toArray, List.set_cons_zero, List.set_cons_succ]
          refine wpAnyH_take (i := 15) (oi := ?_) (v := ?_) ?_ (by kernel_rfl) (by kernel_rfl) (by kernel_rfl) ?_ (Or.inl ⟨?_, ?_⟩) (by assumption) ?_
          rotate_left 2
          · (simp only [List.getElem?_toArray, List.getElem?_cons_succ, List.getElem?_cons_zero]; rfl)
          · exact fun _ _ _ h => h
          · rfl
          · (intro w hSw; (try dsimp only at hSw); go_simp; try with_reducible rfl)
          simp only [Act.put, List.setIfInBounds_toArray, List.set_cons_zero, List.set_cons_succ]
          refine wpAnyH_ready (rs := [16]) (by kernel_rfl) (by simp) ?_
          refine AllReadyH.cons rfl (fun K hK => ?_) AllReadyH.nil
          go_simp
          go_at_call 29; refine (HO.out _).mono ?_; rintro e w9 ⟨rfl, n9, rfl⟩; replace hB := below_drewN hB n9; obtain ⟨c0, c1, c2, hsz⟩ := HK.out _ hB; obtain ⟨q0, q1, q2, q3, q4, q5, q6, q7, q8, hbw⟩ := HQk.out _ hB; have y0 := HQy.out _ hB
          go_wp2_with fail
          refine hK.out _ _ (by first | exact ⟨c2, y0, q0⟩) (fun hHeld => ?_)
          clear hK K
          try simp only [Act.put, List.setIfInBounds_toArray, List.set_cons_zero, List.set_cons_succ]
          refine wpAnyH_take (i := 17) (oi := ?_) (v := ?_) ?_ (by kernel_rfl) (by kernel_rfl) (by kernel_rfl) ?_ (Or.inl ⟨?_, ?_⟩) (by assumption) ?_
          rotate_left 2
          · (simp only [List.getElem?_toArray, List.getElem?_cons_succ, List.getElem?_cons_zero]; rfl)
          · exact fun _ _ _ h => h
          · rfl
          · (intro w hSw; (try dsimp only at hSw); go_simp; try with_reducible rfl)
          simp only [Act.put, List.setIfInBounds_toArray, List.set_cons_zero, List.set_cons_succ]
          refine wpAnyH_take (i := 18) (oi := ?_) (v := ?_) ?_ (by kernel_rfl) (by kernel_rfl) (by kernel_rfl) ?_ (Or.inl ⟨?_, ?_⟩) (by assumption) ?_
          rotate_left 2
          · (simp only [List.getElem?_toArray, List.getElem?_cons_succ, List.getElem?_cons_zero]; rfl)
          · exact fun _ _ _ h => h
          · rfl
          · (intro w hSw; (try dsimp only at hSw); go_simp; try with_reducible rfl)
          simp only [Act.put, List.setIfInBounds_toArray, List.set_cons_zero, List.set_cons_succ]
          refine wpAnyH_done (by kernel_rfl) ?_ _
          rw [World.drewN_drewN] at hB
          go_wp2_with fail
          go_roundw
          case rel => exact ⟨k + 1, by omega, by go_num, hB, HA1.out HCk.out, HU1.out HO2.out⟩
          case measure => simp [intOf]; omega
    · obtain rfl : k = X.length := by omega
      go_wp2_with fail
      go_ret
      exact ⟨⟨0, rfl, fun _ => ⟨HN.out.1, HN.out.2.1, HN.out.2.2, fun m hm => by obtain ⟨j, hj, rfl⟩ := List.getElem_of_mem hm; exact HOk.out j hj hj, chain_N fun j hj => HUp.out j hj hj⟩⟩, HB0.out.trans (hB.mono HB0.out.size)⟩
end Go.Proofs.YtbhkfemebionnaaGreatDoor

namespace Go.Proofs.YtbhkfemebionnaaGreatDoor
open Go.RowKit

def SomeB (e : Ending) : Prop := ∃ b, e = .returned (.bool b)
def SomeBI (e : Ending) (p : Prop) : Prop := ∃ b, e = .returned (.bool b) ∧ (b = true → p)
set_option maxHeartbeats 2000000 in
theorem rfewm_any (A : Option Addr) (n c : Nat) (w : World) :
    Calls Tryz.prog 95 #[.slice A n c] w fun e w' => SomeB e ∧ w' = w := by
  by_cases h : (n : Int) ≤ 300
  · go_enter Tryz.func95, Tryz.ntmps95
    go_wp2_with fail
    go_ret
    exact ⟨⟨_, rfl⟩, rfl⟩
  · go_enter Tryz.func95, Tryz.ntmps95
    go_wp2_with fail
    go_ret
    exact ⟨⟨_, rfl⟩, rfl⟩
set_option maxHeartbeats 8000000 in
theorem rfewc_any (num lab : ByteArray) (MA : Option Addr) (mn mc : Nat) (PA : Option Addr) (pn pc : Nat) (blk mrk : Bool) (fol : Int) (lnk : ByteArray) (lps : Int) (w : World) :
    Calls Tryz.prog 70 #[.agg #[.string num, .string lab, .slice MA mn mc, .slice PA pn pc, .bool blk, .bool mrk, .int .i64 fol, .string lnk, .int .i64 lps]] w fun e w' => SomeB e ∧ Below w.heap.size w w' := by
  by_cases h1 : (num.size : Int) ≤ 40
  rotate_left
  · go_enter Tryz.func70, Tryz.ntmps70
    go_wp2_with (go_at_call 95; refine (rfewm_any _ _ _ _).mono ?_; rintro e w1 ⟨⟨b1, rfl⟩, rfl⟩)
    go_ret
    exact ⟨⟨_, rfl⟩, (Below.refl _ _).alloc (Nat.le_refl _) _⟩
  by_cases h2 : (lab.size : Int) ≤ 100
  rotate_left
  · go_enter Tryz.func70, Tryz.ntmps70
    go_wp2_with (go_at_call 95; refine (rfewm_any _ _ _ _).mono ?_; rintro e w1 ⟨⟨b1, rfl⟩, rfl⟩)
    go_ret
    exact ⟨⟨_, rfl⟩, (Below.refl _ _).alloc (Nat.le_refl _) _⟩
  by_cases h3 : (lnk.size : Int) ≤ 40
  rotate_left
  · go_enter Tryz.func70, Tryz.ntmps70
    go_wp2_with (go_at_call 95; refine (rfewm_any _ _ _ _).mono ?_; rintro e w1 ⟨⟨b1, rfl⟩, rfl⟩)
    go_ret
    exact ⟨⟨_, rfl⟩, (Below.refl _ _).alloc (Nat.le_refl _) _⟩
  by_cases h4 : (pn : Int) ≤ 10
  rotate_left
  · go_enter Tryz.func70, Tryz.ntmps70
    go_wp2_with (go_at_call 95; refine (rfewm_any _ _ _ _).mono ?_; rintro e w1 ⟨⟨b1, rfl⟩, rfl⟩)
    go_ret
    exact ⟨⟨_, rfl⟩, (Below.refl _ _).alloc (Nat.le_refl _) _⟩
  go_enter Tryz.func70, Tryz.ntmps70
  go_wp2_with (go_at_call 95; refine (rfewm_any _ _ _ _).mono ?_; rintro e w1 ⟨⟨b1, rfl⟩, rfl⟩)
  go_ret
  exact ⟨⟨_, rfl⟩, (Below.refl _ _).alloc (Nat.le_refl _) _⟩
set_option maxRecDepth 100000 in
set_option maxHeartbeats 16000000 in
theorem rfewl_any (no pri : Int) (A : Option Addr) (n c : Nat) (X : List CV) (w : World) (hX : InC w A n X) (hfit : n ≤ 9223372036854775807) :
    Calls Tryz.prog 44 #[.agg #[.int .i64 no, .int .i64 pri, .slice A n c]] w fun e w' => SomeB e ∧ Below w.heap.size w w' := by
  have hn : n = X.length := hX.len
  subst hn
  obtain ⟨W, hW⟩ : ∃ W, W = w.alloc (.cells #[.int .i64 no, .int .i64 pri, .slice A X.length c] 24) := ⟨_, rfl⟩
  have hB0 : Below w.heap.size w W := by rw [hW]; exact (Below.refl _ _).alloc (Nat.le_refl _) _
  have hcW : Cells W w.heap.size [.int .i64 no, .int .i64 pri, .slice A X.length c] := by rw [hW]; exact Cells.fresh w [.int .i64 no, .int .i64 pri, .slice A X.length c] _
  have hK : ∀ V, Below W.heap.size W V → V.cell? ⟨w.heap.size, 0, none⟩ = some (.int .i64 no) ∧ V.cell? ⟨w.heap.size, 1, none⟩ = some (.int .i64 pri) ∧ V.cell? ⟨w.heap.size, 2, none⟩ = some (.slice A X.length c) ∧ w.heap.size < V.heap.size := fun V h => by
    have hc := hcW.below h hcW.1
    exact ⟨hc.at_ (j := 0) rfl, hc.at_ (j := 1) rfl, hc.at_ (j := 2) rfl, hc.1⟩
  have HK := Lib.hid hK
  have HW := Lib.hid hW
  have HB0 := Lib.hid hB0
  have HX := Lib.hid (hX.below hB0)
  clear hW hcW hK hX
  by_cases h5 : (128 : Int) < (X.length : Int)
  · go_enter Tryz.func44, Tryz.ntmps44
    go_wp2_with fail
    go_ret
    rw [← HW.out]
    exact ⟨⟨_, rfl⟩, hB0⟩
  go_enter Tryz.func44, Tryz.ntmps44
  go_wp2_with fail
  rw [← HW.out]
  go_loopw [3] (fun iv wr => ∃ k : Nat, k ≤ X.length ∧ iv = .int .i64 k ∧ Below W.heap.size W wr) (fun iv _ => X.length - (intOf iv).toNat)
  case atStart => exact ⟨0, Nat.zero_le _, rfl, Below.refl _ _⟩
  case round =>
    obtain ⟨k, hk, rfl, hB⟩ := hrel
    obtain ⟨c0, c1, c2, hsz⟩ := HK.out _ hB
    by_cases hlt : k < X.length
    · have i0 : (0 : Int) ≤ (k : Int) := by omega
      have i1 : (k : Int) < (X.length : Int) := by omega
      have w0 : IntKind.i64.wrap ((k : Int) + 1) = (k : Int) + 1 := IntWalk.i64_in _ (by omega)
      obtain ⟨b, o, rfl, hbl, hcell⟩ := cu_at HX.out (by omega)
      have hck := hcell k hlt
      generalize X[k] = x at *
      obtain ⟨⟨num, lab, MA, mn, mc, PA, pn, pc, blk, mrk, fol, lnk, lps⟩, ms, ts⟩ := x
      obtain ⟨q0, q1, q2, q3, q4, q5, q6, q7, q8⟩ := hck
      replace q0 := (hB.cell (p := ⟨b, o + k * 9, none⟩) hbl).trans q0
      replace q1 := (hB.cell (p := ⟨b, o + k * 9 + 1, none⟩) hbl).trans q1
      replace q2 := (hB.cell (p := ⟨b, o + k * 9 + 2, none⟩) hbl).trans q2
      replace q3 := (hB.cell (p := ⟨b, o + k * 9 + 3, none⟩) hbl).trans q3
      replace q4 := (hB.cell (p := ⟨b, o + k * 9 + 4, none⟩) hbl).trans q4
      replace q5 := (hB.cell (p := ⟨b, o + k * 9 + 5, none⟩) hbl).trans q5
      replace q6 := (hB.cell (p := ⟨b, o + k * 9 + 6, none⟩) hbl).trans q6
      replace q7 := (hB.cell (p := ⟨b, o + k * 9 + 7, none⟩) hbl).trans q7
      replace q8 := (hB.cell (p := ⟨b, o + k * 9 + 8, none⟩) hbl).trans q8
      have hbw := Nat.lt_of_lt_of_le hbl hB.size
      clear hcell
      go_wp2_with fail
      refine (rfewc_any num lab MA mn mc PA pn pc blk mrk fol lnk lps wr).mono ?_
      rintro e w5 ⟨⟨b5, rfl⟩, hb⟩
      cases b5
      · go_wp2_with fail
        go_ret
        exact ⟨⟨_, rfl⟩, HB0.out.trans ((hB.trans (hb.mono hB.size)).mono HB0.out.size)⟩
      · go_wp2_with fail
        go_roundw
        case rel => exact ⟨k + 1, by omega, by go_num, hB.trans (hb.mono hB.size)⟩
        case measure => simp [intOf]; omega
    · obtain rfl : k = X.length := by omega
      go_wp2_with fail
      go_ret
      exact ⟨⟨_, rfl⟩, HB0.out.trans (hB.mono HB0.out.size)⟩
set_option maxRecDepth 100000 in
set_option maxHeartbeats 16000000 in
theorem rfewt_any (no pri : Int) (A : Option Addr) (n c : Nat) (X : List CV) (w : World) (hX : InC w A n X) (hs : ∀ x ∈ X, x.fit) (hfit : n ≤ 9223372036854775807) :
    Calls Tryz.prog 23 #[.agg #[.int .i64 no, .int .i64 pri, .slice A n c]] w fun e w' => SomeB e ∧ Below w.heap.size w w' := by
  have hn : n = X.length := hX.len
  subst hn
  obtain ⟨W, hW⟩ : ∃ W, W = w.alloc (.cells #[.int .i64 no, .int .i64 pri, .slice A X.length c] 24) := ⟨_, rfl⟩
  have hB0 : Below w.heap.size w W := by rw [hW]; exact (Below.refl _ _).alloc (Nat.le_refl _) _
  have hcW : Cells W w.heap.size [.int .i64 no, .int .i64 pri, .slice A X.length c] := by rw [hW]; exact Cells.fresh w [.int .i64 no, .int .i64 pri, .slice A X.length c] _
  have hK : ∀ V, Below W.heap.size W V → V.cell? ⟨w.heap.size, 0, none⟩ = some (.int .i64 no) ∧ V.cell? ⟨w.heap.size, 1, none⟩ = some (.int .i64 pri) ∧ V.cell? ⟨w.heap.size, 2, none⟩ = some (.slice A X.length c) ∧ w.heap.size < V.heap.size := fun V h => by
    have hc := hcW.below h hcW.1
    exact ⟨hc.at_ (j := 0) rfl, hc.at_ (j := 1) rfl, hc.at_ (j := 2) rfl, hc.1⟩
  have HK := Lib.hid hK
  have HW := Lib.hid hW
  have HB0 := Lib.hid hB0
  have HX := Lib.hid (hX.below hB0)
  have HF := Lib.hid (fun V (h : Below W.heap.size W V) => rfewl_any no pri A X.length c X V ((hX.below hB0).below h) hfit)
  have HC := Lib.hid (fun V (h : Below W.heap.size W V) => rlist_any no pri A X.length c X V ((hX.below hB0).below h) hs)
  have HFit := Lib.hid hfit
  clear hW hcW hK hX hs hfit
  obtain ⟨c0, c1, c2, hsz⟩ := HK.out _ (Below.refl _ _)
  go_enter Tryz.func23, Tryz.ntmps23
  go_wp2_with fail
  rw [← HW.out]
  refine (HF.out _ (Below.refl _ _)).mono ?_
  rintro e w5 ⟨⟨b5, rfl⟩, hB⟩
  clear c0 c1 c2 hsz
  obtain ⟨c0, c1, c2, hsz⟩ := HK.out _ hB
  cases b5
  · go_wp2_with fail
    go_ret
    exact ⟨⟨_, rfl⟩, HB0.out.trans (hB.mono HB0.out.size)⟩
  by_cases h10 : (10 : Int) < (X.length : Int)
  · go_wp2_with (go_at_call 10; refine (HC.out _ hB).mono ?_; rintro e w6 ⟨⟨E6, rfl, _⟩, hb⟩)
    go_ret
    exact ⟨⟨_, rfl⟩, HB0.out.trans ((hB.trans (hb.mono hB.size)).mono HB0.out.size)⟩
  go_wp2_with fail
  have HB5 := Lib.hid hB
  clear hB c0 c1 c2 hsz
  go_loopw [3, 4] (fun mv iv wr => ∃ (k : Nat) (m : Int), k ≤ X.length ∧ iv = .int .i64 k ∧ mv = .int .i64 m ∧ Below W.heap.size W wr) (fun _ iv _ => X.length - (intOf iv).toNat)
  case atStart => exact ⟨0, 0, Nat.zero_le _, rfl, rfl, HB5.out⟩
  case round =>
    obtain ⟨k, m, hk, rfl, rfl, hB⟩ := hrel
    obtain ⟨c0, c1, c2, hsz⟩ := HK.out _ hB
    by_cases hlt : k < X.length
    · have i0 : (0 : Int) ≤ (k : Int) := by omega
      have i1 : (k : Int) < (X.length : Int) := by omega
      have w0 : IntKind.i64.wrap ((k : Int) + 1) = (k : Int) + 1 := IntWalk.i64_in _ (by omega)
      obtain ⟨b, o, rfl, hbl, hcell⟩ := cu_at HX.out (by omega)
      have hck := hcell k hlt
      generalize X[k] = x at *
      obtain ⟨⟨num, lab, MA, mn, mc, PA, pn, pc, blk, mrk, fol, lnk, lps⟩, ms, ts⟩ := x
      obtain ⟨q0, q1, q2, q3, q4, q5, q6, q7, q8⟩ := hck
      replace q0 := (hB.cell (p := ⟨b, o + k * 9, none⟩) hbl).trans q0
      replace q1 := (hB.cell (p := ⟨b, o + k * 9 + 1, none⟩) hbl).trans q1
      replace q2 := (hB.cell (p := ⟨b, o + k * 9 + 2, none⟩) hbl).trans q2
      replace q3 := (hB.cell (p := ⟨b, o + k * 9 + 3, none⟩) hbl).trans q3
      replace q4 := (hB.cell (p := ⟨b, o + k * 9 + 4, none⟩) hbl).trans q4
      replace q5 := (hB.cell (p := ⟨b, o + k * 9 + 5, none⟩) hbl).trans q5
      replace q6 := (hB.cell (p := ⟨b, o + k * 9 + 6, none⟩) hbl).trans q6
      replace q7 := (hB.cell (p := ⟨b, o + k * 9 + 7, none⟩) hbl).trans q7
      replace q8 := (hB.cell (p := ⟨b, o + k * 9 + 8, none⟩) hbl).trans q8
      have hbw := Nat.lt_of_lt_of_le hbl hB.size
      clear hcell
      obtain ⟨s, hsm⟩ : ∃ s, IntKind.i64.wrap (m + (mn : Int)) = s := ⟨_, rfl⟩
      by_cases h20 : (20 : Int) < (mn : Int)
      · go_wp2_with (go_at_call 10; refine (HC.out _ hB).mono ?_; rintro e w6 ⟨⟨E6, rfl, _⟩, hb⟩)
        go_ret
        exact ⟨⟨_, rfl⟩, HB0.out.trans ((hB.trans (hb.mono hB.size)).mono HB0.out.size)⟩
      by_cases h30 : (30 : Int) < s
      · go_wp2_with (go_at_call 10; refine (HC.out _ hB).mono ?_; rintro e w6 ⟨⟨E6, rfl, _⟩, hb⟩)
        go_ret
        exact ⟨⟨_, rfl⟩, HB0.out.trans ((hB.trans (hb.mono hB.size)).mono HB0.out.size)⟩
      go_wp2_with fail
      go_roundw
      case rel => exact ⟨k + 1, s, by omega, by go_num, rfl, hB⟩
      case measure => simp [intOf]; omega
    · obtain rfl : k = X.length := by omega
      go_wp2_with fail
      go_ret
      exact ⟨⟨_, rfl⟩, HB0.out.trans (hB.mono HB0.out.size)⟩
set_option maxRecDepth 100000 in
set_option maxHeartbeats 16000000 in
theorem caselist_any (no pri : Int) (A : Option Addr) (n c : Nat) (X : List CV) (w : World) (hX : InC w A n X) (hs : ∀ x ∈ X, x.fit) (hfit : n ≤ 9223372036854775807) :
    Calls Tryz.prog 5 #[.agg #[.int .i64 no, .int .i64 pri, .slice A n c]] w fun e w' => SomeBI e (LsOK no pri X) ∧ Below w.heap.size w w' := by
  have hn : n = X.length := hX.len
  subst hn
  obtain ⟨W, hW⟩ : ∃ W, W = w.alloc (.cells #[.int .i64 no, .int .i64 pri, .slice A X.length c] 24) := ⟨_, rfl⟩
  have hB0 : Below w.heap.size w W := by rw [hW]; exact (Below.refl _ _).alloc (Nat.le_refl _) _
  have hcW : Cells W w.heap.size [.int .i64 no, .int .i64 pri, .slice A X.length c] := by rw [hW]; exact Cells.fresh w [.int .i64 no, .int .i64 pri, .slice A X.length c] _
  have hK : ∀ V, Below W.heap.size W V → V.cell? ⟨w.heap.size, 0, none⟩ = some (.int .i64 no) ∧ V.cell? ⟨w.heap.size, 1, none⟩ = some (.int .i64 pri) ∧ V.cell? ⟨w.heap.size, 2, none⟩ = some (.slice A X.length c) ∧ w.heap.size < V.heap.size := fun V h => by
    have hc := hcW.below h hcW.1
    exact ⟨hc.at_ (j := 0) rfl, hc.at_ (j := 1) rfl, hc.at_ (j := 2) rfl, hc.1⟩
  have HK := Lib.hid hK
  have HW := Lib.hid hW
  have HB0 := Lib.hid hB0
  have HX := Lib.hid (hX.below hB0)
  have HF := Lib.hid (fun V (h : Below W.heap.size W V) => rfewt_any no pri A X.length c X V ((hX.below hB0).below h) hs hfit)
  have HC := Lib.hid (fun V (h : Below W.heap.size W V) => rlist_any no pri A X.length c X V ((hX.below hB0).below h) hs)
  clear hW hcW hK hX hs hfit
  obtain ⟨c0, c1, c2, hsz⟩ := HK.out _ (Below.refl _ _)
  go_enter Tryz.func5, Tryz.ntmps5
  go_wp2_with fail
  rw [← HW.out]
  refine (HF.out _ (Below.refl _ _)).mono ?_
  rintro e w5 ⟨⟨b5, rfl⟩, hB⟩
  clear c0 c1 c2 hsz
  obtain ⟨c0, c1, c2, hsz⟩ := HK.out _ hB
  cases b5
  · go_wp2_with fail
    go_ret
    exact ⟨⟨false, rfl, fun h => by cases h⟩, HB0.out.trans (hB.mono HB0.out.size)⟩
  go_wp2_with fail
  refine (HC.out _ hB).mono ?_
  rintro e w6 ⟨⟨E6, rfl, h6⟩, hb⟩
  by_cases e6 : E6 = 0
  · subst e6
    have HL := Lib.hid (h6 rfl)
    clear h6
    go_wp2_with fail
    go_ret
    exact ⟨⟨true, rfl, fun _ => HL.out⟩, HB0.out.trans ((hB.trans (hb.mono hB.size)).mono HB0.out.size)⟩
  · have g6 : (E6 == 0) = false := by simpa using e6
    go_wp2_with fail
    go_ret
    exact ⟨⟨false, by first | rfl | (go_simp; rw [g6]) | (simp [g6]), fun h => by cases h⟩, HB0.out.trans ((hB.trans (hb.mono hB.size)).mono HB0.out.size)⟩
end Go.Proofs.YtbhkfemebionnaaGreatDoor
