/- Lemmas and contracts of functions, joined for the claim: LkRL, LkRT, LkRM. -/
import Derived.Test.YtbhkfemebionnaaGreatDoorMVal
namespace Go.Proofs.YtbhkfemebionnaaGreatDoor
open Go.RowKit

set_option maxRecDepth 100000 in
set_option maxHeartbeats 8000000 in
theorem rlabel_any (s : ByteArray) (w : World) :
    Calls Tryz.prog 55 #[.string s] w fun e w' => (∃ E, e = .returned (.int .i64 E) ∧ (E = 0 → labOK s.data.toList)) ∧ w' = w := by
  by_cases hn : 24 < s.size
  · have gn : (24 : Int) < (s.size : Int) := by omega
    go_enter Tryz.func55, Tryz.ntmps55
    go_wp2_with fail
    go_ret
    exact ⟨⟨13, rfl, fun h => by cases h⟩, rfl⟩
  have gn : ¬ (24 : Int) < (s.size : Int) := by omega
  have HN := Lib.hid (show s.size ≤ 24 by omega)
  clear hn
  go_enter Tryz.func55, Tryz.ntmps55
  go_wp2_with fail
  go_loop [3] (fun v => ∃ i : Nat, i ≤ s.size ∧ v = .int .i64 i ∧ ∀ j (h : j < s.size), j < i → 32 ≤ s[j].toNat ∧ s[j].toNat ≤ 126 ∧ s[j].toNat ≠ 34) (fun v => s.size - (intOf v).toNat)
  case atStart => exact ⟨0, Nat.zero_le _, rfl, fun j _ h => absurd h (Nat.not_lt_zero _)⟩
  case round =>
    obtain ⟨i, hi, rfl, hall⟩ := hrel
    have HAll := Lib.hid hall
    clear hall
    by_cases hlt : i < s.size
    · have w0 : IntKind.i64.wrap ((i : Int) + 1) = (i : Int) + 1 := IntWalk.i64_in _ (by have := HN.out; omega)
      have HP := Lib.hid (show (32 ≤ s[i].toNat ∧ s[i].toNat ≤ 126 ∧ s[i].toNat ≠ 34) → ∀ j (h : j < s.size), j < i + 1 → 32 ≤ s[j].toNat ∧ s[j].toNat ≤ 126 ∧ s[j].toNat ≠ 34 from fun h j hj hjk => by
        rcases Nat.lt_or_eq_of_le (Nat.le_of_lt_succ hjk) with h1 | h1
        · exact HAll.out j hj h1
        · subst h1; exact h)
      by_cases h1 : s[i].toNat < 32
      · have g1 : ((s[i].toNat : Nat) : Int) < 32 := by omega
        go_wp2_with fail
        go_ret
        exact ⟨⟨3, rfl, fun h => by cases h⟩, rfl⟩
      have g1 : ¬ ((s[i].toNat : Nat) : Int) < 32 := by omega
      by_cases h2 : 126 < s[i].toNat
      · have g2 : (126 : Int) < ((s[i].toNat : Nat) : Int) := by omega
        go_wp2_with fail
        go_ret
        exact ⟨⟨3, rfl, fun h => by cases h⟩, rfl⟩
      have g2 : ¬ (126 : Int) < ((s[i].toNat : Nat) : Int) := by omega
      by_cases h3 : s[i].toNat = 34
      · have g3 : ((s[i].toNat : Nat) : Int) = 34 := by omega
        have g3b : (((s[i].toNat : Nat) : Int) == 34) = true := by simpa using g3
        clear h3
        go_wp2_with fail
        go_ret
        exact ⟨⟨3, rfl, fun h => by cases h⟩, rfl⟩
      have g3 : ¬ ((s[i].toNat : Nat) : Int) = 34 := by omega
      have g3b : (((s[i].toNat : Nat) : Int) == 34) = false := by simpa using g3
      have HC := Lib.hid (HP.out ⟨by omega, by omega, h3⟩)
      clear h1 h2 h3
      go_wp2_with fail
      go_round
      case rel => exact ⟨i + 1, by omega, by go_num, HC.out⟩
      case measure => simp [intOf]; omega
    · obtain rfl : i = s.size := by omega
      go_wp2_with fail
      go_ret
      exact ⟨⟨0, rfl, fun _ => ⟨by rw [bytes_len]; exact HN.out, fun c hc => by
        obtain ⟨j, hj, rfl⟩ := List.getElem_of_mem hc
        have hj2 : j < s.size := by rw [← bytes_len]; exact hj
        exact HAll.out j hj2 hj2⟩⟩, rfl⟩
end Go.Proofs.YtbhkfemebionnaaGreatDoor

namespace Go.Proofs.YtbhkfemebionnaaGreatDoor
open Go.RowKit

set_option maxRecDepth 100000 in
set_option maxHeartbeats 32000000 in
theorem rmoves_any (A : Option Addr) (n c : Nat) (l : List Mv) (w : World) (hl : shMv.In w A n l) :
    Calls Tryz.prog 56 #[.slice A n c] w fun e w' => (∃ E, e = .returned (.int .i64 E) ∧ (E = 0 → MvsOK l)) ∧ Below w.heap.size w w' := by
  obtain ⟨rfl, _⟩ := id hl
  have HL := Lib.hid hl
  clear hl
  by_cases hn : 128 < l.length
  · have gn : (128 : Int) < (l.length : Int) := by omega
    go_enter Tryz.func56, Tryz.ntmps56
    go_wp2_with fail
    go_ret
    exact ⟨⟨5, rfl, fun h => by cases h⟩, Below.refl _ _⟩
  have gn : ¬ (128 : Int) < (l.length : Int) := by omega
  have HN := Lib.hid (show l.length ≤ 128 by omega)
  clear hn
  go_enter Tryz.func56, Tryz.ntmps56
  go_wp2_with fail
  go_loopw [3] (fun iv wr => ∃ k : Nat, k ≤ l.length ∧ iv = .int .i64 k ∧ Below w.heap.size w wr ∧ (∀ j (h : j < l.length), j < k → l[j].ok) ∧ (∀ j (h : j + 1 < l.length), j + 1 < k → ltM (l[j]'(by omega)) l[j + 1])) (fun iv _ => l.length - (intOf iv).toNat)
  case atStart => exact ⟨0, Nat.zero_le _, rfl, Below.refl _ _, fun j _ h => absurd h (Nat.not_lt_zero _), fun j _ h => absurd h (Nat.not_lt_zero _)⟩
  case round =>
    obtain ⟨k, hk, rfl, hBr, hok, hup⟩ := hrel
    have HOk := Lib.hid hok
    have HUp := Lib.hid hup
    have HBr := Lib.hid hBr
    clear hok hup hBr
    by_cases hlt : k < l.length
    · have i0 : (0 : Int) ≤ (k : Int) := by omega
      have i1 : (k : Int) < (l.length : Int) := by omega
      have w0 : IntKind.i64.wrap ((k : Int) + 1) = (k : Int) + 1 := IntWalk.i64_in _ (by have := HN.out; omega)
      obtain ⟨b, o, rfl, hbl, hcell⟩ := mv_at HL.out (by omega)
      have HK0 := Lib.hid (show ∀ W, Below wr.heap.size wr W → W.cell? ⟨b, o + k * 5, none⟩ = some (.int .i64 l[k].ch) ∧ W.cell? ⟨b, o + k * 5 + 1, none⟩ = some (.int .i64 l[k].atr) ∧ W.cell? ⟨b, o + k * 5 + 2, none⟩ = some (.int .i64 l[k].pa) ∧ W.cell? ⟨b, o + k * 5 + 3, none⟩ = some (.int .i64 l[k].le) ∧ W.cell? ⟨b, o + k * 5 + 4, none⟩ = some (.int .i64 l[k].pt) ∧ b < W.heap.size from fun W h => by
        have hW := HBr.out.trans (h.mono HBr.out.size)
        have hb2 := Nat.lt_of_lt_of_le hbl hW.size
        obtain ⟨q0, q1, q2, q3, q4⟩ := hcell k hlt
        exact ⟨(hW.cell (p := ⟨b, o + k * 5, none⟩) hbl).trans q0, (hW.cell (p := ⟨b, o + k * 5 + 1, none⟩) hbl).trans q1, (hW.cell (p := ⟨b, o + k * 5 + 2, none⟩) hbl).trans q2, (hW.cell (p := ⟨b, o + k * 5 + 3, none⟩) hbl).trans q3, (hW.cell (p := ⟨b, o + k * 5 + 4, none⟩) hbl).trans q4, hb2⟩)
      have HQ := Lib.hid (show 0 < k → ∀ W, Below wr.heap.size wr W → W.cell? ⟨b, o + (k - 1) * 5, none⟩ = some (.int .i64 (l[k - 1]'(by omega)).ch) ∧ W.cell? ⟨b, o + (k - 1) * 5 + 1, none⟩ = some (.int .i64 (l[k - 1]'(by omega)).atr) from fun hk0 W h => by
        have hW := HBr.out.trans (h.mono HBr.out.size)
        obtain ⟨q0, q1, q2, q3, q4⟩ := hcell (k - 1) (by omega)
        exact ⟨(hW.cell (p := ⟨b, o + (k - 1) * 5, none⟩) hbl).trans q0, (hW.cell (p := ⟨b, o + (k - 1) * 5 + 1, none⟩) hbl).trans q1⟩)
      have HMk := Lib.hid (show l[k] = ⟨l[k].ch, l[k].atr, l[k].pa, l[k].le, l[k].pt⟩ from rfl)
      obtain ⟨m, hm⟩ : ∃ m, m = l[k] := ⟨_, rfl⟩
      have HM := Lib.hid hm
      have HK : Hid (∀ W, Below wr.heap.size wr W → W.cell? ⟨b, o + k * 5, none⟩ = some (.int .i64 m.ch) ∧ W.cell? ⟨b, o + k * 5 + 1, none⟩ = some (.int .i64 m.atr) ∧ W.cell? ⟨b, o + k * 5 + 2, none⟩ = some (.int .i64 m.pa) ∧ W.cell? ⟨b, o + k * 5 + 3, none⟩ = some (.int .i64 m.le) ∧ W.cell? ⟨b, o + k * 5 + 4, none⟩ = some (.int .i64 m.pt) ∧ b < W.heap.size) := Lib.hid (by rw [hm]; exact HK0.out)
      have HA1 := Lib.hid (show m.ok → ∀ j (h : j < l.length), j < k + 1 → l[j].ok from fun h j hj hjk => by
        rcases Nat.lt_or_eq_of_le (Nat.le_of_lt_succ hjk) with h1 | h1
        · exact HOk.out j hj h1
        · subst h1; rw [hm] at h; exact h)
      have HU1 := Lib.hid (show (∀ h0 : 0 < k, ltM (l[k - 1]'(by omega)) m) → ∀ j (h : j + 1 < l.length), j + 1 < k + 1 → ltM (l[j]'(by omega)) l[j + 1] from fun h j hj hjk => by
        rcases Nat.lt_or_eq_of_le (Nat.le_of_lt_succ hjk) with h1 | h1
        · exact HUp.out j hj h1
        · subst h1; have := h (by omega); rw [hm] at this; exact this)
      have hB := Below.refl wr.heap.size wr
      obtain ⟨p0, p1, p2, p3, p4, hbw⟩ := HK.out _ hB
      clear hcell hm HK0 HMk HOk HUp
      obtain ⟨ch, atr, pa, le, pt⟩ := m
      have p0 : wr.cell? ⟨b, o + k * 5, none⟩ = some (.int .i64 ch) := p0
      have p1 : wr.cell? ⟨b, o + k * 5 + 1, none⟩ = some (.int .i64 atr) := p1
      have p2 : wr.cell? ⟨b, o + k * 5 + 2, none⟩ = some (.int .i64 pa) := p2
      have p3 : wr.cell? ⟨b, o + k * 5 + 3, none⟩ = some (.int .i64 le) := p3
      have p4 : wr.cell? ⟨b, o + k * 5 + 4, none⟩ = some (.int .i64 pt) := p4
      have HK : Hid (∀ W, Below wr.heap.size wr W → W.cell? ⟨b, o + k * 5, none⟩ = some (.int .i64 ch) ∧ W.cell? ⟨b, o + k * 5 + 1, none⟩ = some (.int .i64 atr) ∧ W.cell? ⟨b, o + k * 5 + 2, none⟩ = some (.int .i64 pa) ∧ W.cell? ⟨b, o + k * 5 + 3, none⟩ = some (.int .i64 le) ∧ W.cell? ⟨b, o + k * 5 + 4, none⟩ = some (.int .i64 pt) ∧ b < W.heap.size) := HK
      have HP1 := Lib.hid (fun w => rparam_any ch atr w)
      have HP2 := Lib.hid (fun w => rval_any pa le w)
      have HI1 := Lib.hid (fun h => parE_iff.1 (show parE ch atr = 0 from h))
      have HI2 := Lib.hid (fun h => valE_iff.1 (show valE pa le = 0 from h))
      generalize parE ch atr = E1 at *
      generalize valE pa le = E2 at *
      by_cases h1 : E1 = 0
      rotate_left
      · have g1 : (E1 != 0) = true := by simpa using h1
        go_wp2_with (first | (go_at_call 80; refine (HP1.out _).mono ?_; rintro e w7 ⟨rfl, hb⟩; replace hB := hB.trans (hb.mono hB.size); clear hb; obtain ⟨p0, p1, p2, p3, p4, hbw⟩ := HK.out _ hB) | (go_at_call 81; refine (HP2.out _).mono ?_; rintro e w8 ⟨rfl, hb⟩; replace hB := hB.trans (hb.mono hB.size); clear hb; obtain ⟨p0, p1, p2, p3, p4, hbw⟩ := HK.out _ hB))
        go_ret
        exact ⟨⟨_, rfl, fun h => absurd h h1⟩, HBr.out.trans (hB.mono HBr.out.size)⟩
      subst h1
      by_cases h2 : E2 = 0
      rotate_left
      · have g2 : (E2 != 0) = true := by simpa using h2
        go_wp2_with (first | (go_at_call 80; refine (HP1.out _).mono ?_; rintro e w7 ⟨rfl, hb⟩; replace hB := hB.trans (hb.mono hB.size); clear hb; obtain ⟨p0, p1, p2, p3, p4, hbw⟩ := HK.out _ hB) | (go_at_call 81; refine (HP2.out _).mono ?_; rintro e w8 ⟨rfl, hb⟩; replace hB := hB.trans (hb.mono hB.size); clear hb; obtain ⟨p0, p1, p2, p3, p4, hbw⟩ := HK.out _ hB))
        go_ret
        exact ⟨⟨_, rfl, fun h => absurd h h2⟩, HBr.out.trans (hB.mono HBr.out.size)⟩
      subst h2
      by_cases h3 : pt < 1
      · go_wp2_with (first | (go_at_call 80; refine (HP1.out _).mono ?_; rintro e w7 ⟨rfl, hb⟩; replace hB := hB.trans (hb.mono hB.size); clear hb; obtain ⟨p0, p1, p2, p3, p4, hbw⟩ := HK.out _ hB) | (go_at_call 81; refine (HP2.out _).mono ?_; rintro e w8 ⟨rfl, hb⟩; replace hB := hB.trans (hb.mono hB.size); clear hb; obtain ⟨p0, p1, p2, p3, p4, hbw⟩ := HK.out _ hB))
        go_ret
        exact ⟨⟨_, rfl, fun h => by cases h⟩, HBr.out.trans (hB.mono HBr.out.size)⟩
      by_cases h4 : 4 < pt
      · go_wp2_with (first | (go_at_call 80; refine (HP1.out _).mono ?_; rintro e w7 ⟨rfl, hb⟩; replace hB := hB.trans (hb.mono hB.size); clear hb; obtain ⟨p0, p1, p2, p3, p4, hbw⟩ := HK.out _ hB) | (go_at_call 81; refine (HP2.out _).mono ?_; rintro e w8 ⟨rfl, hb⟩; replace hB := hB.trans (hb.mono hB.size); clear hb; obtain ⟨p0, p1, p2, p3, p4, hbw⟩ := HK.out _ hB))
        go_ret
        exact ⟨⟨_, rfl, fun h => by cases h⟩, HBr.out.trans (hB.mono HBr.out.size)⟩
      have HMo := Lib.hid (show Mv.ok ⟨ch, atr, pa, le, pt⟩ from ⟨HI1.out rfl, HI2.out rfl, Int.not_lt.1 h3, Int.not_lt.1 h4⟩)
      by_cases hk0 : 0 < k
      rotate_left
      · have gk : ¬ (0 : Int) < (k : Int) := by omega
        go_wp2_with (first | (go_at_call 80; refine (HP1.out _).mono ?_; rintro e w7 ⟨rfl, hb⟩; replace hB := hB.trans (hb.mono hB.size); clear hb; obtain ⟨p0, p1, p2, p3, p4, hbw⟩ := HK.out _ hB) | (go_at_call 81; refine (HP2.out _).mono ?_; rintro e w8 ⟨rfl, hb⟩; replace hB := hB.trans (hb.mono hB.size); clear hb; obtain ⟨p0, p1, p2, p3, p4, hbw⟩ := HK.out _ hB))
        replace hB := below_drewN hB 1
        refine wp_region_held_drew (S := fun _ => True) (by kernel_rfl) (by first | exact trivial) (fun hHeld => ?_)
        refine wpAnyH_take (i := 0) (oi := ?_) (v := ?_) ?_ (by kernel_rfl) (by kernel_rfl) (by kernel_rfl) ?_ (Or.inl ⟨?_, ?_⟩) (by assumption) ?_
        rotate_left 2
        · (simp only [List.getElem?_toArray, List.getElem?_cons_zero]; rfl)
        · exact fun _ _ _ h => h
        · rfl
        · (intro w hSw; (try dsimp only at hSw); go_simp; try with_reducible rfl)
        simp only [Act.put, List.setIfInBounds_toArray, List.set_cons_zero, List.set_cons_succ]
        refine wpAnyH_take (i := 1) (oi := ?_) (v := ?_) ?_ (by kernel_rfl) (by kernel_rfl) (by kernel_rfl) ?_ (Or.inl ⟨?_, ?_⟩) (by assumption) ?_
        rotate_left 2
        · (simp only [List.getElem?_toArray, List.getElem?_cons_succ, List.getElem?_cons_zero]; rfl)
        · exact fun _ _ _ h => h
        · rfl
        · (intro w hSw; (try dsimp only at hSw); go_simp; try with_reducible rfl)
        simp only [Act.put, List.setIfInBounds_toArray, List.set_cons_zero, List.set_cons_succ]
        refine wpAnyH_take (i := 2) (oi := ?_) (v := ?_) ?_ (by kernel_rfl) (by kernel_rfl) (by kernel_rfl) ?_ (Or.inl ⟨?_, ?_⟩) (by assumption) ?_
        rotate_left 2
        · (simp only [List.getElem?_toArray, List.getElem?_cons_succ, List.getElem?_cons_zero]; rfl)
        · exact fun _ _ _ h => h
        · rfl
        · (intro w hSw; (try dsimp only at hSw); go_simp; try with_reducible rfl)
        simp only [Act.put, List.setIfInBounds_toArray, List.set_cons_zero, List.set_cons_succ]
        refine wpAnyH_take (i := 3) (oi := ?_) (v := undef) ?_ (by kernel_rfl) (by kernel_rfl) (by kernel_rfl) ?_ (Or.inr ⟨?_, rfl⟩) (by assumption) ?_
        rotate_left 1
        · (simp only [List.getElem?_toArray, List.getElem?_cons_succ, List.getElem?_cons_zero]; rfl)
        · exact fun _ _ _ h => h
        · rfl
        simp only [Act.put, List.setIfInBounds_toArray, List.set_cons_zero, List.set_cons_succ]
        refine wpAnyH_take (i := 4) (oi := ?_) (v := undef) ?_ (by kernel_rfl) (by kernel_rfl) (by kernel_rfl) ?_ (Or.inr ⟨?_, rfl⟩) (by assumption) ?_
        rotate_left 1
        · (simp only [List.getElem?_toArray, List.getElem?_cons_succ, List.getElem?_cons_zero]; rfl)
        · exact fun _ _ _ h => h
        · rfl
        simp only [Act.put, List.setIfInBounds_toArray, List.set_cons_zero, List.set_cons_succ]
        refine wpAnyH_take (i := 5) (oi := ?_) (v := undef) ?_ (by kernel_rfl) (by kernel_rfl) (by kernel_rfl) ?_ (Or.inr ⟨?_, rfl⟩) (by assumption) ?_
        rotate_left 1
        · (simp only [List.getElem?_toArray, List.getElem?_cons_succ, List.getElem?_cons_zero]; rfl)
        · exact fun _ _ _ h => h
        · rfl
        simp only [Act.put, List.setIfInBounds_toArray, List.set_cons_zero, List.set_cons_succ]
        refine wpAnyH_take (i := 6) (oi := ?_) (v := undef) ?_ (by kernel_rfl) (by kernel_rfl) (by kernel_rfl) ?_ (Or.inr ⟨?_, rfl⟩) (by assumption) ?_
        rotate_left 1
        · (simp only [List.getElem?_toArray, List.getElem?_cons_succ, List.getElem?_cons_zero]; rfl)
        · exact fun _ _ _ h => h
        · rfl
        simp only [Act.put, List.setIfInBounds_toArray, List.set_cons_zero, List.set_cons_succ]
        refine wpAnyH_take (i := 7) (oi := ?_) (v := undef) ?_ (by kernel_rfl) (by kernel_rfl) (by kernel_rfl) ?_ (Or.inr ⟨?_, rfl⟩) (by assumption) ?_
        rotate_left 1
        · (simp only [List.getElem?_toArray, List.getElem?_cons_succ, List.getElem?_cons_zero]; rfl)
        · exact fun _ _ _ h => h
        · rfl
        simp only [Act.put, List.setIfInBounds_toArray, List.set_cons_zero, List.set_cons_succ]
        refine wpAnyH_take (i := 8) (oi := ?_) (v := undef) ?_ (by kernel_rfl) (by kernel_rfl) (by kernel_rfl) ?_ (Or.inr ⟨?_, rfl⟩) (by assumption) ?_
        rotate_left 1
        · (simp only [List.getElem?_toArray, List.getElem?_cons_succ, List.getElem?_cons_zero]; rfl)
        · exact fun _ _ _ h => h
        · rfl
        simp only [Act.put, List.setIfInBounds_toArray, List.set_cons_zero, List.set_cons_succ]
        refine wpAnyH_take (i := 9) (oi := ?_) (v := undef) ?_ (by kernel_rfl) (by kernel_rfl) (by kernel_rfl) ?_ (Or.inr ⟨?_, rfl⟩) (by assumption) ?_
        rotate_left 1
        · (simp only [List.getElem?_toArray, List.getElem?_cons_succ, List.getElem?_cons_zero]; rfl)
        · exact fun _ _ _ h => h
        · rfl
        simp only [Act.put, List.setIfInBounds_toArray, List.set_cons_zero, List.set_cons_succ]
        refine wpAnyH_take (i := 10) (oi := ?_) (v := undef) ?_ (by kernel_rfl) (by kernel_rfl) (by kernel_rfl) ?_ (Or.inr ⟨?_, rfl⟩) (by assumption) ?_
        rotate_left 1
        · (simp only [List.getElem?_toArray, List.getElem?_cons_succ, List.getElem?_cons_zero]; rfl)
        · exact fun _ _ _ h => h
        · rfl
        simp only [Act.put, List.setIfInBounds_toArray, List.set_cons_zero, List.set_cons_succ]
        refine wpAnyH_take (i := 11) (oi := ?_) (v := undef) ?_ (by kernel_rfl) (by kernel_rfl) (by kernel_rfl) ?_ (Or.inr ⟨?_, rfl⟩) (by assumption) ?_
        rotate_left 1
        · (simp only [List.getElem?_toArray, List.getElem?_cons_succ, List.getElem?_cons_zero]; rfl)
        · exact fun _ _ _ h => h
        · rfl
        simp only [Act.put, List.setIfInBounds_toArray, List.set_cons_zero, List.set_cons_succ]
        refine wpAnyH_take (i := 12) (oi := ?_) (v := undef) ?_ (by kernel_rfl) (by kernel_rfl) (by kernel_rfl) ?_ (Or.inr ⟨?_, rfl⟩) (by assumption) ?_
        rotate_left 1
        · (simp only [List.getElem?_toArray, List.getElem?_cons_succ, List.getElem?_cons_zero]; rfl)
        · exact fun _ _ _ h => h
        · rfl
        simp only [Act.put, List.setIfInBounds_toArray, List.set_cons_zero, List.set_cons_succ]
        refine wpAnyH_take (i := 13) (oi := ?_) (v := undef) ?_ (by kernel_rfl) (by kernel_rfl) (by kernel_rfl) ?_ (Or.inr ⟨?_, rfl⟩) (by assumption) ?_
        rotate_left 1
        · (simp only [List.getElem?_toArray, List.getElem?_cons_succ, List.getElem?_cons_zero]; rfl)
        · exact fun _ _ _ h => h
        · rfl
        simp only [Act.put, List.setIfInBounds_toArray, List.set_cons_zero, List.set_cons_succ]
        refine wpAnyH_take (i := 14) (oi := ?_) (v := undef) ?_ (by kernel_rfl) (by kernel_rfl) (by kernel_rfl) ?_ (Or.inr ⟨?_, rfl⟩) (by assumption) ?_
        rotate_left 1
        · (simp only [List.getElem?_toArray, List.getElem?_cons_succ, List.getElem?_cons_zero]; rfl)
        · exact fun _ _ _ h => h
        · rfl
        simp only [Act.put, List.setIfInBounds_toArray, List.set_cons_zero, List.set_cons_succ]
        refine wpAnyH_take (i := 15) (oi := ?_) (v := undef) ?_ (by kernel_rfl) (by kernel_rfl) (by kernel_rfl) ?_ (Or.inr ⟨?_, rfl⟩) (by assumption) ?_
        rotate_left 1
        · (simp only [List.getElem?_toArray, List.getElem?_cons_succ, List.getElem?_cons_zero]; rfl)
        · exact fun _ _ _ h => h
        · rfl
        simp only [Act.put, List.setIfInBounds_toArray, List.set_cons_zero, List.set_cons_succ]
        refine wpAnyH_take (i := 16) (oi := ?_) (v := ?_) ?_ (by kernel_rfl) (by kernel_rfl) (by kernel_rfl) ?_ (Or.inl ⟨?_, ?_⟩) (by assumption) ?_
        rotate_left 2
        · (simp only [List.getElem?_toArray, List.getElem?_cons_succ, List.getElem?_cons_zero]; rfl)
        · exact fun _ _ _ h => h
        · rfl
        · (intro w hSw; (try dsimp only at hSw); go_simp; try with_reducible rfl)
        simp only [Act.put, List.setIfInBounds_toArray, List.set_cons_zero, List.set_cons_succ]
        refine wpAnyH_done (by kernel_rfl) ?_ _
        go_wp2_with fail
        go_roundw
        case rel => exact ⟨k + 1, by omega, by go_num, HBr.out.trans (hB.mono HBr.out.size), HA1.out HMo.out, HU1.out (fun h => absurd h hk0)⟩
        case measure => simp [intOf]; omega
      · have gk : (0 : Int) < (k : Int) := by omega
        have w1 : IntKind.i64.wrap ((k : Int) - 1) = (k : Int) - 1 := IntWalk.i64_in _ (by have := HN.out; omega)
        have j0 : (0 : Int) ≤ (k : Int) - 1 := by omega
        have j0b : (1 : Int) ≤ (k : Int) := by omega
        have j1 : (k : Int) - 1 < (l.length : Int) := by omega
        have jn : ((k : Int) - 1).toNat = k - 1 := by omega
        obtain ⟨⟨cq, aq, _, _, _⟩, hq⟩ : ∃ m, m = l[k - 1] := ⟨_, rfl⟩
        have gk0 := hk0
        have HQ : Hid (0 < k → ∀ W, Below wr.heap.size wr W → W.cell? ⟨b, o + (k - 1) * 5, none⟩ = some (.int .i64 cq) ∧ W.cell? ⟨b, o + (k - 1) * 5 + 1, none⟩ = some (.int .i64 aq)) := Lib.hid (fun h => by have := HQ.out h; rw [← hq] at this; exact this)
        have HU2 := Lib.hid (show ltP cq aq ch atr → _ from fun h => HU1.out (fun _ => by rw [← hq]; exact h))
        clear hq
        have HBf := Lib.hid (fun w => rbefore_any cq aq ch atr w)
        have HLt := Lib.hid (show ltB cq aq ch atr = true → ltP cq aq ch atr from of_decide_eq_true)
        generalize ltB cq aq ch atr = bf at *
        cases bf
        · go_wp2_with (first | (go_at_call 80; refine (HP1.out _).mono ?_; rintro e w7 ⟨rfl, hb⟩; replace hB := hB.trans (hb.mono hB.size); clear hb; obtain ⟨p0, p1, p2, p3, p4, hbw⟩ := HK.out _ hB) | (go_at_call 81; refine (HP2.out _).mono ?_; rintro e w8 ⟨rfl, hb⟩; replace hB := hB.trans (hb.mono hB.size); clear hb; obtain ⟨p0, p1, p2, p3, p4, hbw⟩ := HK.out _ hB))
          replace hB := below_drewN hB 1
          obtain ⟨q0, q1⟩ := HQ.out gk0 _ hB
          obtain ⟨p0, p1, p2, p3, p4, hbw⟩ := HK.out _ hB
          refine wp_region_held_drew (S := fun w' => w'.cell? ⟨b, o + (k - 1) * 5, none⟩ = some (.int .i64 cq) ∧ w'.cell? ⟨b, o + (k - 1) * 5 + 1, none⟩ = some (.int .i64 aq) ∧ w'.cell? ⟨b, o + k * 5, none⟩ = some (.int .i64 ch) ∧ w'.cell? ⟨b, o + k * 5 + 1, none⟩ = some (.int .i64 atr)) (by kernel_rfl) (by first | exact ⟨q0, q1, p0, p1⟩) (fun hHeld => ?_)
          refine wpAnyH_take (i := 0) (oi := ?_) (v := ?_) ?_ (by kernel_rfl) (by kernel_rfl) (by kernel_rfl) ?_ (Or.inl ⟨?_, ?_⟩) (by assumption) ?_
          rotate_left 2
          · (simp only [List.getElem?_toArray, List.getElem?_cons_zero]; rfl)
          · exact fun _ _ _ h => h
          · rfl
          · (intro w hSw; (try dsimp only at hSw); go_simp; try with_reducible rfl)
          simp only [Act.put, List.setIfInBounds_toArray, List.set_cons_zero, List.set_cons_succ]
          refine wpAnyH_take (i := 1) (oi := ?_) (v := ?_) ?_ (by kernel_rfl) (by kernel_rfl) (by kernel_rfl) ?_ (Or.inl ⟨?_, ?_⟩) (by assumption) ?_
          rotate_left 2
          · (simp only [List.getElem?_toArray, List.getElem?_cons_succ, List.getElem?_cons_zero]; rfl)
          · exact fun _ _ _ h => h
          · rfl
          · (intro w hSw; (try dsimp only at hSw); go_simp; try with_reducible rfl)
          simp only [Act.put, List.setIfInBounds_toArray, List.set_cons_zero, List.set_cons_succ]
          refine wpAnyH_take (i := 2) (oi := ?_) (v := ?_) ?_ (by kernel_rfl) (by kernel_rfl) (by kernel_rfl) ?_ (Or.inl ⟨?_, ?_⟩) (by assumption) ?_
          rotate_left 2
          · (simp only [List.getElem?_toArray, List.getElem?_cons_succ, List.getElem?_cons_zero]; rfl)
          · exact fun _ _ _ h => h
          · rfl
          · (intro w hSw; (try dsimp only at hSw); go_simp; try with_reducible rfl)
          simp only [Act.put, List.setIfInBounds_toArray, List.set_cons_zero, List.set_cons_succ]
          refine wpAnyH_take (i := 3) (oi := ?_) (v := ?_) ?_ (by kernel_rfl) (by kernel_rfl) (by kernel_rfl) ?_ (Or.inl ⟨?_, ?_⟩) (by assumption) ?_
          rotate_left 2
          · (simp only [List.getElem?_toArray, List.getElem?_cons_succ, List.getElem?_cons_zero]; rfl)
          · exact fun _ _ _ h => h
          · rfl
          · (intro w hSw; (try dsimp only at hSw); go_simp; try with_reducible rfl)
          simp only [Act.put, List.setIfInBounds_toArray, List.set_cons_zero, List.set_cons_succ]
          refine wpAnyH_take (i := 4) (oi := ?_) (v := ?_) ?_ (by kernel_rfl) (by kernel_rfl) (by kernel_rfl) ?_ (Or.inl ⟨?_, ?_⟩) (by assumption) ?_
          rotate_left 2
          · (simp only [List.getElem?_toArray, List.getElem?_cons_succ, List.getElem?_cons_zero]; rfl)
          · exact fun _ _ _ h => h
          · rfl
          · (intro w hSw; (try dsimp only at hSw); go_simp; try with_reducible rfl)
          simp only [Act.put, List.setIfInBounds_toArray, List.set_cons_zero, List.set_cons_succ]
          refine wpAnyH_take (i := 5) (oi := ?_) (v := ?_) ?_ (by kernel_rfl) (by kernel_rfl) (by kernel_rfl) ?_ (Or.inl ⟨?_, ?_⟩) (by assumption) ?_
          rotate_left 2
          · (simp only [List.getElem?_toArray, List.getElem?_cons_succ, List.getElem?_cons_zero]; rfl)
          · exact fun _ _ _ h => h
          · rfl
          · (intro w hSw; (try dsimp only at hSw); go_simp; try with_reducible rfl)
          simp only [Act.put, List.setIfInBounds_toArray, List.set_cons_zero, List.set_cons_succ]
          refine wpAnyH_take (i := 6) (oi := ?_) (v := ?_) ?_ (by kernel_rfl) (by kernel_rfl) (by kernel_rfl) ?_ (Or.inl ⟨?_, ?_⟩) (by assumption) ?_
          rotate_left 2
          · (simp only [List.getElem?_toArray, List.getElem?_cons_succ, List.getElem?_cons_zero]; rfl)
          · exact fun _ _ _ h => h
          · rfl
          · (intro w hSw; (try dsimp only at hSw); go_simp; try with_reducible rfl)
          simp only [Act.put, List.setIfInBounds_toArray, List.set_cons_zero, List.set_cons_succ]
          refine wpAnyH_take (i := 7) (oi := ?_) (v := ?_) ?_ (by kernel_rfl) (by kernel_rfl) (by kernel_rfl) ?_ (Or.inl ⟨?_, ?_⟩) (by assumption) ?_
          rotate_left 2
          · (simp only [List.getElem?_toArray, List.getElem?_cons_succ, List.getElem?_cons_zero]; rfl)
          · exact fun _ _ _ h => h
          · rfl
          · (intro w hSw; (try dsimp only at hSw); go_simp; try with_reducible rfl)
          simp only [Act.put, List.setIfInBounds_toArray, List.set_cons_zero, List.set_cons_succ]
          refine wpAnyH_take (i := 8) (oi := ?_) (v := ?_) ?_ (by kernel_rfl) (by kernel_rfl) (by kernel_rfl) ?_ (Or.inl ⟨?_, ?_⟩) (by assumption) ?_
          rotate_left 2
          · (simp only [List.getElem?_toArray, List.getElem?_cons_succ, List.getElem?_cons_zero]; rfl)
          · exact fun _ _ _ h => h
          · rfl
          · (intro w hSw; (try dsimp only at hSw); go_simp; try with_reducible rfl)
          simp only [Act.put, List.setIfInBounds_toArray, List.set_cons_zero, List.set_cons_succ]
          refine wpAnyH_take (i := 9) (oi := ?_) (v := ?_) ?_ (by kernel_rfl) (by kernel_rfl) (by kernel_rfl) ?_ (Or.inl ⟨?_, ?_⟩) (by assumption) ?_
          rotate_left 2
          · (simp only [List.getElem?_toArray, List.getElem?_cons_succ, List.getElem?_cons_zero]; rfl)
          · exact fun _ _ _ h => h
          · rfl
          · (intro w hSw; (try dsimp only at hSw); go_simp; try with_reducible rfl)
          simp only [Act.put, List.setIfInBounds_toArray, List.set_cons_zero, List.set_cons_succ]
          refine wpAnyH_take (i := 10) (oi := ?_) (v := ?_) ?_ (by kernel_rfl) (by kernel_rfl) (by kernel_rfl) ?_ (Or.inl ⟨?_, ?_⟩) (by assumption) ?_
          rotate_left 2
          · (simp only [List.getElem?_toArray, List.getElem?_cons_succ, List.getElem?_cons_zero]; rfl)
          · exact fun _ _ _ h => h
          · rfl
          · (intro w hSw; (try dsimp only at hSw); go_simp; try with_reducible rfl)
          simp only [Act.put, List.setIfInBounds_toArray, List.set_cons_zero, List.set_cons_succ]
          refine wpAnyH_take (i := 11) (oi := ?_) (v := ?_) ?_ (by kernel_rfl) (by kernel_rfl) (by kernel_rfl) ?_ (Or.inl ⟨?_, ?_⟩) (by assumption) ?_
          rotate_left 2
          · (simp only [List.getElem?_toArray, List.getElem?_cons_succ, List.getElem?_cons_zero]; rfl)
          · exact fun _ _ _ h => h
          · rfl
          · (intro w hSw; (try dsimp only at hSw); go_simp; try with_reducible rfl)
          simp only [Act.put, List.setIfInBounds_toArray, List.set_cons_zero, List.set_cons_succ]
          refine wpAnyH_take (i := 12) (oi := ?_) (v := ?_) ?_ (by kernel_rfl) (by kernel_rfl) (by kernel_rfl) ?_ (Or.inl ⟨?_, ?_⟩) (by assumption) ?_
          rotate_left 2
          · (simp only [List.getElem?_toArray, List.getElem?_cons_succ, List.getElem?_cons_zero]; rfl)
          · exact fun _ _ _ h => h
          · rfl
          · (intro w hSw; (try dsimp only at hSw); go_simp; try with_reducible rfl)
          simp only [Act.put, List.setIfInBounds_toArray, List.set_cons_zero, List.set_cons_succ]
          refine wpAnyH_take (i := 13) (oi := ?_) (v := ?_) ?_ (by kernel_rfl) (by kernel_rfl) (by kernel_rfl) ?_ (Or.inl ⟨?_, ?_⟩) (by assumption) ?_
          rotate_left 2
          · (simp only [List.getElem?_toArray, List.getElem?_cons_succ, List.getElem?_cons_zero]; rfl)
          · exact fun _ _ _ h => h
          · rfl
          · (intro w hSw; (try dsimp only at hSw); go_simp; try with_reducible rfl)
          simp only [Act.put, List.setIfInBounds_toArray, List.set_cons_zero, List.set_cons_succ]
          refine wpAnyH_ready (rs := [14]) (by kernel_rfl) (by simp) ?_
          refine AllReadyH.cons rfl (fun K hK => ?_) AllReadyH.nil
          go_simp
          refine (HBf.out _).mono ?_; rintro e w9 ⟨rfl, hb⟩; replace hB := hB.trans (hb.mono hB.size); clear hb; obtain ⟨p0, p1, p2, p3, p4, hbw⟩ := HK.out _ hB; obtain ⟨q0, q1⟩ := HQ.out gk0 _ hB
          go_wp2_with fail
          refine hK.out _ _ (by first | exact ⟨q0, q1, p0, p1⟩) (fun hHeld => ?_)
          clear hK K
          try simp only [Act.put, List.setIfInBounds_toArray, List.set_cons_zero, List.set_cons_succ]
          refine wpAnyH_take (i := 15) (oi := ?_) (v := ?_) ?_ (by kernel_rfl) (by kernel_rfl) (by kernel_rfl) ?_ (Or.inl ⟨?_, ?_⟩) (by assumption) ?_
          rotate_left 2
          · (simp only [List.getElem?_toArray, List.getElem?_cons_succ, List.getElem?_cons_zero]; rfl)
          · exact fun _ _ _ h => h
          · rfl
          · (intro w hSw; (try dsimp only at hSw); go_simp; try with_reducible rfl)
          simp only [Act.put, List.setIfInBounds_toArray, List.set_cons_zero, List.set_cons_succ]
          refine wpAnyH_take (i := 16) (oi := ?_) (v := ?_) ?_ (by kernel_rfl) (by kernel_rfl) (by kernel_rfl) ?_ (Or.inl ⟨?_, ?_⟩) (by assumption) ?_
          rotate_left 2
          · (simp only [List.getElem?_toArray, List.getElem?_cons_succ, List.getElem?_cons_zero]; rfl)
          · exact fun _ _ _ h => h
          · rfl
          · (intro w hSw; (try dsimp only at hSw); go_simp; try with_reducible rfl)
          simp only [Act.put, List.setIfInBounds_toArray, List.set_cons_zero, List.set_cons_succ]
          refine wpAnyH_done (by kernel_rfl) ?_ _
          go_wp2_with fail
          go_ret
          exact ⟨⟨9, rfl, fun h => by cases h⟩, HBr.out.trans (hB.mono HBr.out.size)⟩
        · go_wp2_with (first | (go_at_call 80; refine (HP1.out _).mono ?_; rintro e w7 ⟨rfl, hb⟩; replace hB := hB.trans (hb.mono hB.size); clear hb; obtain ⟨p0, p1, p2, p3, p4, hbw⟩ := HK.out _ hB) | (go_at_call 81; refine (HP2.out _).mono ?_; rintro e w8 ⟨rfl, hb⟩; replace hB := hB.trans (hb.mono hB.size); clear hb; obtain ⟨p0, p1, p2, p3, p4, hbw⟩ := HK.out _ hB))
          replace hB := below_drewN hB 1
          obtain ⟨q0, q1⟩ := HQ.out gk0 _ hB
          obtain ⟨p0, p1, p2, p3, p4, hbw⟩ := HK.out _ hB
          refine wp_region_held_drew (S := fun w' => w'.cell? ⟨b, o + (k - 1) * 5, none⟩ = some (.int .i64 cq) ∧ w'.cell? ⟨b, o + (k - 1) * 5 + 1, none⟩ = some (.int .i64 aq) ∧ w'.cell? ⟨b, o + k * 5, none⟩ = some (.int .i64 ch) ∧ w'.cell? ⟨b, o + k * 5 + 1, none⟩ = some (.int .i64 atr)) (by kernel_rfl) (by first | exact ⟨q0, q1, p0, p1⟩) (fun hHeld => ?_)
          refine wpAnyH_take (i := 0) (oi := ?_) (v := ?_) ?_ (by kernel_rfl) (by kernel_rfl) (by kernel_rfl) ?_ (Or.inl ⟨?_, ?_⟩) (by assumption) ?_
          rotate_left 2
          · (simp only [List.getElem?_toArray, List.getElem?_cons_zero]; rfl)
          · exact fun _ _ _ h => h
          · rfl
          · (intro w hSw; (try dsimp only at hSw); go_simp; try with_reducible rfl)
          simp only [Act.put, List.setIfInBounds_toArray, List.set_cons_zero, List.set_cons_succ]
          refine wpAnyH_take (i := 1) (oi := ?_) (v := ?_) ?_ (by kernel_rfl) (by kernel_rfl) (by kernel_rfl) ?_ (Or.inl ⟨?_, ?_⟩) (by assumption) ?_
          rotate_left 2
          · (simp only [List.getElem?_toArray, List.getElem?_cons_succ, List.getElem?_cons_zero]; rfl)
          · exact fun _ _ _ h => h
          · rfl
          · (intro w hSw; (try dsimp only at hSw); go_simp; try with_reducible rfl)
          simp only [Act.put, List.setIfInBounds_toArray, List.set_cons_zero, List.set_cons_succ]
          refine wpAnyH_take (i := 2) (oi := ?_) (v := ?_) ?_ (by kernel_rfl) (by kernel_rfl) (by kernel_rfl) ?_ (Or.inl ⟨?_, ?_⟩) (by assumption) ?_
          rotate_left 2
          · (simp only [List.getElem?_toArray, List.getElem?_cons_succ, List.getElem?_cons_zero]; rfl)
          · exact fun _ _ _ h => h
          · rfl
          · (intro w hSw; (try dsimp only at hSw); go_simp; try with_reducible rfl)
          simp only [Act.put, List.setIfInBounds_toArray, List.set_cons_zero, List.set_cons_succ]
          refine wpAnyH_take (i := 3) (oi := ?_) (v := ?_) ?_ (by kernel_rfl) (by kernel_rfl) (by kernel_rfl) ?_ (Or.inl ⟨?_, ?_⟩) (by assumption) ?_
          rotate_left 2
          · (simp only [List.getElem?_toArray, List.getElem?_cons_succ, List.getElem?_cons_zero]; rfl)
          · exact fun _ _ _ h => h
          · rfl
          · (intro w hSw; (try dsimp only at hSw); go_simp; try with_reducible rfl)
          simp only [Act.put, List.setIfInBounds_toArray, List.set_cons_zero, List.set_cons_succ]
          refine wpAnyH_take (i := 4) (oi := ?_) (v := ?_) ?_ (by kernel_rfl) (by kernel_rfl) (by kernel_rfl) ?_ (Or.inl ⟨?_, ?_⟩) (by assumption) ?_
          rotate_left 2
          · (simp only [List.getElem?_toArray, List.getElem?_cons_succ, List.getElem?_cons_zero]; rfl)
          · exact fun _ _ _ h => h
          · rfl
          · (intro w hSw; (try dsimp only at hSw); go_simp; try with_reducible rfl)
          simp only [Act.put, List.setIfInBounds_toArray, List.set_cons_zero, List.set_cons_succ]
          refine wpAnyH_take (i := 5) (oi := ?_) (v := ?_) ?_ (by kernel_rfl) (by kernel_rfl) (by kernel_rfl) ?_ (Or.inl ⟨?_, ?_⟩) (by assumption) ?_
          rotate_left 2
          · (simp only [List.getElem?_toArray, List.getElem?_cons_succ, List.getElem?_cons_zero]; rfl)
          · exact fun _ _ _ h => h
          · rfl
          · (intro w hSw; (try dsimp only at hSw); go_simp; try with_reducible rfl)
          simp only [Act.put, List.setIfInBounds_toArray, List.set_cons_zero, List.set_cons_succ]
          refine wpAnyH_take (i := 6) (oi := ?_) (v := ?_) ?_ (by kernel_rfl) (by kernel_rfl) (by kernel_rfl) ?_ (Or.inl ⟨?_, ?_⟩) (by assumption) ?_
          rotate_left 2
          · (simp only [List.getElem?_toArray, List.getElem?_cons_succ, List.getElem?_cons_zero]; rfl)
          · exact fun _ _ _ h => h
          · rfl
          · (intro w hSw; (try dsimp only at hSw); go_simp; try with_reducible rfl)
          simp only [Act.put, List.setIfInBounds_toArray, List.set_cons_zero, List.set_cons_succ]
          refine wpAnyH_take (i := 7) (oi := ?_) (v := ?_) ?_ (by kernel_rfl) (by kernel_rfl) (by kernel_rfl) ?_ (Or.inl ⟨?_, ?_⟩) (by assumption) ?_
          rotate_left 2
          · (simp only [List.getElem?_toArray, List.getElem?_cons_succ, List.getElem?_cons_zero]; rfl)
          · exact fun _ _ _ h => h
          · rfl
          · (intro w hSw; (try dsimp only at hSw); go_simp; try with_reducible rfl)
          simp only [Act.put, List.setIfInBounds_toArray, List.set_cons_zero, List.set_cons_succ]
          refine wpAnyH_take (i := 8) (oi := ?_) (v := ?_) ?_ (by kernel_rfl) (by kernel_rfl) (by kernel_rfl) ?_ (Or.inl ⟨?_, ?_⟩) (by assumption) ?_
          rotate_left 2
          · (simp only [List.getElem?_toArray, List.getElem?_cons_succ, List.getElem?_cons_zero]; rfl)
          · exact fun _ _ _ h => h
          · rfl
          · (intro w hSw; (try dsimp only at hSw); go_simp; try with_reducible rfl)
          simp only [Act.put, List.setIfInBounds_toArray, List.set_cons_zero, List.set_cons_succ]
          refine wpAnyH_take (i := 9) (oi := ?_) (v := ?_) ?_ (by kernel_rfl) (by kernel_rfl) (by kernel_rfl) ?_ (Or.inl ⟨?_, ?_⟩) (by assumption) ?_
          rotate_left 2
          · (simp only [List.getElem?_toArray, List.getElem?_cons_succ, List.getElem?_cons_zero]; rfl)
          · exact fun _ _ _ h => h
          · rfl
          · (intro w hSw; (try dsimp only at hSw); go_simp; try with_reducible rfl)
          simp only [Act.put, List.setIfInBounds_toArray, List.set_cons_zero, List.set_cons_succ]
          refine wpAnyH_take (i := 10) (oi := ?_) (v := ?_) ?_ (by kernel_rfl) (by kernel_rfl) (by kernel_rfl) ?_ (Or.inl ⟨?_, ?_⟩) (by assumption) ?_
          rotate_left 2
          · (simp only [List.getElem?_toArray, List.getElem?_cons_succ, List.getElem?_cons_zero]; rfl)
          · exact fun _ _ _ h => h
          · rfl
          · (intro w hSw; (try dsimp only at hSw); go_simp; try with_reducible rfl)
          simp only [Act.put, List.setIfInBounds_toArray, List.set_cons_zero, List.set_cons_succ]
          refine wpAnyH_take (i := 11) (oi := ?_) (v := ?_) ?_ (by kernel_rfl) (by kernel_rfl) (by kernel_rfl) ?_ (Or.inl ⟨?_, ?_⟩) (by assumption) ?_
          rotate_left 2
          · (simp only [List.getElem?_toArray, List.getElem?_cons_succ, List.getElem?_cons_zero]; rfl)
          · exact fun _ _ _ h => h
          · rfl
          · (intro w hSw; (try dsimp only at hSw); go_simp; try with_reducible rfl)
          simp only [Act.put, List.setIfInBounds_toArray, List.set_cons_zero, List.set_cons_succ]
          refine wpAnyH_take (i := 12) (oi := ?_) (v := ?_) ?_ (by kernel_rfl) (by kernel_rfl) (by kernel_rfl) ?_ (Or.inl ⟨?_, ?_⟩) (by assumption) ?_
          rotate_left 2
          · (simp only [List.getElem?_toArray, List.getElem?_cons_succ, List.getElem?_cons_zero]; rfl)
          · exact fun _ _ _ h => h
          · rfl
          · (intro w hSw; (try dsimp only at hSw); go_simp; try with_reducible rfl)
          simp only [Act.put, List.setIfInBounds_toArray, List.set_cons_zero, List.set_cons_succ]
          refine wpAnyH_take (i := 13) (oi := ?_) (v := ?_) ?_ (by kernel_rfl) (by kernel_rfl) (by kernel_rfl) ?_ (Or.inl ⟨?_, ?_⟩) (by assumption) ?_
          rotate_left 2
          · (simp only [List.getElem?_toArray, List.getElem?_cons_succ, List.getElem?_cons_zero]; rfl)
          · exact fun _ _ _ h => h
          · rfl
          · (intro w hSw; (try dsimp only at hSw); go_simp; try with_reducible rfl)
          simp only [Act.put, List.setIfInBounds_toArray, List.set_cons_zero, List.set_cons_succ]
          refine wpAnyH_ready (rs := [14]) (by kernel_rfl) (by simp) ?_
          refine AllReadyH.cons rfl (fun K hK => ?_) AllReadyH.nil
          go_simp
          refine (HBf.out _).mono ?_; rintro e w9 ⟨rfl, hb⟩; replace hB := hB.trans (hb.mono hB.size); clear hb; obtain ⟨p0, p1, p2, p3, p4, hbw⟩ := HK.out _ hB; obtain ⟨q0, q1⟩ := HQ.out gk0 _ hB
          go_wp2_with fail
          refine hK.out _ _ (by first | exact ⟨q0, q1, p0, p1⟩) (fun hHeld => ?_)
          clear hK K
          try simp only [Act.put, List.setIfInBounds_toArray, List.set_cons_zero, List.set_cons_succ]
          refine wpAnyH_take (i := 15) (oi := ?_) (v := ?_) ?_ (by kernel_rfl) (by kernel_rfl) (by kernel_rfl) ?_ (Or.inl ⟨?_, ?_⟩) (by assumption) ?_
          rotate_left 2
          · (simp only [List.getElem?_toArray, List.getElem?_cons_succ, List.getElem?_cons_zero]; rfl)
          · exact fun _ _ _ h => h
          · rfl
          · (intro w hSw; (try dsimp only at hSw); go_simp; try with_reducible rfl)
          simp only [Act.put, List.setIfInBounds_toArray, List.set_cons_zero, List.set_cons_succ]
          refine wpAnyH_take (i := 16) (oi := ?_) (v := ?_) ?_ (by kernel_rfl) (by kernel_rfl) (by kernel_rfl) ?_ (Or.inl ⟨?_, ?_⟩) (by assumption) ?_
          rotate_left 2
          · (simp only [List.getElem?_toArray, List.getElem?_cons_succ, List.getElem?_cons_zero]; rfl)
          · exact fun _ _ _ h => h
          · rfl
          · (intro w hSw; (try dsimp only at hSw); go_simp; try with_reducible rfl)
          simp only [Act.put, List.setIfInBounds_toArray, List.set_cons_zero, List.set_cons_succ]
          refine wpAnyH_done (by kernel_rfl) ?_ _
          go_wp2_with fail
          go_roundw
          case rel => exact ⟨k + 1, by omega, by go_num, HBr.out.trans (hB.mono HBr.out.size), HA1.out HMo.out, HU2.out (HLt.out (by first | rfl | trivial))⟩
          case measure => simp [intOf]; omega
    · obtain rfl : k = l.length := by omega
      go_wp2_with fail
      go_ret
      exact ⟨⟨0, rfl, fun _ => ⟨HN.out, fun m hm => by obtain ⟨j, hj, rfl⟩ := List.getElem_of_mem hm; exact HOk.out j hj hj, chain_up fun j hj => HUp.out j hj hj⟩⟩, HBr.out⟩
end Go.Proofs.YtbhkfemebionnaaGreatDoor

namespace Go.Proofs.YtbhkfemebionnaaGreatDoor
open Go.RowKit

set_option maxRecDepth 100000 in
set_option maxHeartbeats 16000000 in
theorem rparts_any (A : Option Addr) (n c : Nat) (l : List Tm) (w : World) (hl : shTm.In w A n l) :
    Calls Tryz.prog 57 #[.slice A n c] w fun e w' => (∃ E, e = .returned (.int .i64 E) ∧ (E = 0 → 1 ≤ l.length ∧ l.length ≤ 4 ∧ ∀ t ∈ l, t.ok)) ∧ Below w.heap.size w w' := by
  obtain ⟨rfl, _⟩ := id hl
  have HL := Lib.hid hl
  clear hl
  by_cases hz : l.length = 0
  · rw [hz]
    go_enter Tryz.func57, Tryz.ntmps57
    go_wp2_with fail
    go_ret
    exact ⟨⟨12, rfl, fun h => by cases h⟩, Below.refl _ _⟩
  have gz : ¬ (l.length : Int) = 0 := by omega
  have gzb : ((l.length : Int) == 0) = false := by simpa using gz
  by_cases hn : 4 < l.length
  · have gn : (4 : Int) < (l.length : Int) := by omega
    go_enter Tryz.func57, Tryz.ntmps57
    go_wp2_with fail
    go_ret
    exact ⟨⟨5, rfl, fun h => by cases h⟩, Below.refl _ _⟩
  have gn : ¬ (4 : Int) < (l.length : Int) := by omega
  have HN := Lib.hid (show 1 ≤ l.length ∧ l.length ≤ 4 by omega)
  clear hn hz
  go_enter Tryz.func57, Tryz.ntmps57
  go_wp2_with fail
  go_loopw [3] (fun iv wr => ∃ k : Nat, k ≤ l.length ∧ iv = .int .i64 k ∧ Below w.heap.size w wr ∧ (∀ j (h : j < l.length), j < k → l[j].ok)) (fun iv _ => l.length - (intOf iv).toNat)
  case atStart => exact ⟨0, Nat.zero_le _, rfl, Below.refl _ _, fun j _ h => absurd h (Nat.not_lt_zero _)⟩
  case round =>
    obtain ⟨k, hk, rfl, hBr, hok⟩ := hrel
    have HOk := Lib.hid hok
    have HBr := Lib.hid hBr
    clear hok hBr
    by_cases hlt : k < l.length
    · have i0 : (0 : Int) ≤ (k : Int) := by omega
      have i1 : (k : Int) < (l.length : Int) := by omega
      have w0 : IntKind.i64.wrap ((k : Int) + 1) = (k : Int) + 1 := IntWalk.i64_in _ (by have := HN.out; omega)
      obtain ⟨b, o, rfl, hbl, hcell⟩ := tm_at HL.out (by omega)
      have hbw := Nat.lt_of_lt_of_le hbl HBr.out.size
      obtain ⟨q0, q1, q2, q3, q4, q5⟩ := hcell k hlt
      have HA1 := Lib.hid (show l[k].ok → ∀ j (h : j < l.length), j < k + 1 → l[j].ok from fun h j hj hjk => by
        rcases Nat.lt_or_eq_of_le (Nat.le_of_lt_succ hjk) with h1 | h1
        · exact HOk.out j hj h1
        · subst h1; exact h)
      have p0 := (HBr.out.cell (p := ⟨b, o + k * 6, none⟩) hbl).trans q0
      have p1 := (HBr.out.cell (p := ⟨b, o + k * 6 + 1, none⟩) hbl).trans q1
      have p2 := (HBr.out.cell (p := ⟨b, o + k * 6 + 2, none⟩) hbl).trans q2
      have p3 := (HBr.out.cell (p := ⟨b, o + k * 6 + 3, none⟩) hbl).trans q3
      have p4 := (HBr.out.cell (p := ⟨b, o + k * 6 + 4, none⟩) hbl).trans q4
      have p5 := (HBr.out.cell (p := ⟨b, o + k * 6 + 5, none⟩) hbl).trans q5
      clear hcell HOk
      obtain ⟨m, hm⟩ : ∃ m, m = l[k] := ⟨_, rfl⟩
      rw [← hm] at HA1 p0 p1 p2 p3 p4 p5
      clear hm q0 q1 q2 q3 q4 q5
      obtain ⟨t0, t1, t2, t3, t4, t5⟩ := m
      have p0 : wr.cell? ⟨b, o + k * 6, none⟩ = some (.int .i64 t0) := p0
      have p1 : wr.cell? ⟨b, o + k * 6 + 1, none⟩ = some (.int .i64 t1) := p1
      have p2 : wr.cell? ⟨b, o + k * 6 + 2, none⟩ = some (.int .i64 t2) := p2
      have p3 : wr.cell? ⟨b, o + k * 6 + 3, none⟩ = some (.int .i64 t3) := p3
      have p4 : wr.cell? ⟨b, o + k * 6 + 4, none⟩ = some (.int .i64 t4) := p4
      have p5 : wr.cell? ⟨b, o + k * 6 + 5, none⟩ = some (.int .i64 t5) := p5
      have HT0 := Lib.hid (fun w => ristime_any t0 w)
      have HT1 := Lib.hid (fun w => ristime_any t1 w)
      have HT2 := Lib.hid (fun w => ristime_any t2 w)
      have HT3 := Lib.hid (fun w => ristime_any t3 w)
      have HT4 := Lib.hid (fun w => ristime_any t4 w)
      have HT5 := Lib.hid (fun w => ristime_any t5 w)
      have HR0 := Lib.hid (fun h => (of_decide_eq_true (show inR t0 10000000 = true from h) : 0 ≤ t0 ∧ t0 ≤ 10000000))
      have HR1 := Lib.hid (fun h => (of_decide_eq_true (show inR t1 10000000 = true from h) : 0 ≤ t1 ∧ t1 ≤ 10000000))
      have HR2 := Lib.hid (fun h => (of_decide_eq_true (show inR t2 10000000 = true from h) : 0 ≤ t2 ∧ t2 ≤ 10000000))
      have HR3 := Lib.hid (fun h => (of_decide_eq_true (show inR t3 10000000 = true from h) : 0 ≤ t3 ∧ t3 ≤ 10000000))
      have HR4 := Lib.hid (fun h => (of_decide_eq_true (show inR t4 10000000 = true from h) : 0 ≤ t4 ∧ t4 ≤ 10000000))
      have HR5 := Lib.hid (fun h => (of_decide_eq_true (show inR t5 10000000 = true from h) : 0 ≤ t5 ∧ t5 ≤ 10000000))
      generalize inR t0 10000000 = r0 at *
      generalize inR t1 10000000 = r1 at *
      generalize inR t2 10000000 = r2 at *
      generalize inR t3 10000000 = r3 at *
      generalize inR t4 10000000 = r4 at *
      generalize inR t5 10000000 = r5 at *
      cases r0
      · go_wp2_with (first | (go_at_call 83; with_reducible refine (HT0.out _).mono ?_; rintro e w7 ⟨rfl, rfl⟩) | (go_at_call 83; with_reducible refine (HT1.out _).mono ?_; rintro e w7 ⟨rfl, rfl⟩) | (go_at_call 83; with_reducible refine (HT2.out _).mono ?_; rintro e w7 ⟨rfl, rfl⟩) | (go_at_call 83; with_reducible refine (HT3.out _).mono ?_; rintro e w7 ⟨rfl, rfl⟩) | (go_at_call 83; with_reducible refine (HT4.out _).mono ?_; rintro e w7 ⟨rfl, rfl⟩) | (go_at_call 83; with_reducible refine (HT5.out _).mono ?_; rintro e w7 ⟨rfl, rfl⟩))
        go_ret
        exact ⟨⟨2, rfl, fun h => by cases h⟩, by first | exact HBr.out | exact HBr.out.trans (((Below.refl _ wr).alloc (Nat.le_refl _) _).mono HBr.out.size)⟩
      cases r1
      · go_wp2_with (first | (go_at_call 83; with_reducible refine (HT0.out _).mono ?_; rintro e w7 ⟨rfl, rfl⟩) | (go_at_call 83; with_reducible refine (HT1.out _).mono ?_; rintro e w7 ⟨rfl, rfl⟩) | (go_at_call 83; with_reducible refine (HT2.out _).mono ?_; rintro e w7 ⟨rfl, rfl⟩) | (go_at_call 83; with_reducible refine (HT3.out _).mono ?_; rintro e w7 ⟨rfl, rfl⟩) | (go_at_call 83; with_reducible refine (HT4.out _).mono ?_; rintro e w7 ⟨rfl, rfl⟩) | (go_at_call 83; with_reducible refine (HT5.out _).mono ?_; rintro e w7 ⟨rfl, rfl⟩))
        go_ret
        exact ⟨⟨2, rfl, fun h => by cases h⟩, by first | exact HBr.out | exact HBr.out.trans (((Below.refl _ wr).alloc (Nat.le_refl _) _).mono HBr.out.size)⟩
      cases r2
      · go_wp2_with (first | (go_at_call 83; with_reducible refine (HT0.out _).mono ?_; rintro e w7 ⟨rfl, rfl⟩) | (go_at_call 83; with_reducible refine (HT1.out _).mono ?_; rintro e w7 ⟨rfl, rfl⟩) | (go_at_call 83; with_reducible refine (HT2.out _).mono ?_; rintro e w7 ⟨rfl, rfl⟩) | (go_at_call 83; with_reducible refine (HT3.out _).mono ?_; rintro e w7 ⟨rfl, rfl⟩) | (go_at_call 83; with_reducible refine (HT4.out _).mono ?_; rintro e w7 ⟨rfl, rfl⟩) | (go_at_call 83; with_reducible refine (HT5.out _).mono ?_; rintro e w7 ⟨rfl, rfl⟩))
        go_ret
        exact ⟨⟨2, rfl, fun h => by cases h⟩, by first | exact HBr.out | exact HBr.out.trans (((Below.refl _ wr).alloc (Nat.le_refl _) _).mono HBr.out.size)⟩
      cases r3
      · go_wp2_with (first | (go_at_call 83; with_reducible refine (HT0.out _).mono ?_; rintro e w7 ⟨rfl, rfl⟩) | (go_at_call 83; with_reducible refine (HT1.out _).mono ?_; rintro e w7 ⟨rfl, rfl⟩) | (go_at_call 83; with_reducible refine (HT2.out _).mono ?_; rintro e w7 ⟨rfl, rfl⟩) | (go_at_call 83; with_reducible refine (HT3.out _).mono ?_; rintro e w7 ⟨rfl, rfl⟩) | (go_at_call 83; with_reducible refine (HT4.out _).mono ?_; rintro e w7 ⟨rfl, rfl⟩) | (go_at_call 83; with_reducible refine (HT5.out _).mono ?_; rintro e w7 ⟨rfl, rfl⟩))
        go_ret
        exact ⟨⟨2, rfl, fun h => by cases h⟩, by first | exact HBr.out | exact HBr.out.trans (((Below.refl _ wr).alloc (Nat.le_refl _) _).mono HBr.out.size)⟩
      cases r4
      · go_wp2_with (first | (go_at_call 83; with_reducible refine (HT0.out _).mono ?_; rintro e w7 ⟨rfl, rfl⟩) | (go_at_call 83; with_reducible refine (HT1.out _).mono ?_; rintro e w7 ⟨rfl, rfl⟩) | (go_at_call 83; with_reducible refine (HT2.out _).mono ?_; rintro e w7 ⟨rfl, rfl⟩) | (go_at_call 83; with_reducible refine (HT3.out _).mono ?_; rintro e w7 ⟨rfl, rfl⟩) | (go_at_call 83; with_reducible refine (HT4.out _).mono ?_; rintro e w7 ⟨rfl, rfl⟩) | (go_at_call 83; with_reducible refine (HT5.out _).mono ?_; rintro e w7 ⟨rfl, rfl⟩))
        go_ret
        exact ⟨⟨2, rfl, fun h => by cases h⟩, by first | exact HBr.out | exact HBr.out.trans (((Below.refl _ wr).alloc (Nat.le_refl _) _).mono HBr.out.size)⟩
      cases r5
      · go_wp2_with (first | (go_at_call 83; with_reducible refine (HT0.out _).mono ?_; rintro e w7 ⟨rfl, rfl⟩) | (go_at_call 83; with_reducible refine (HT1.out _).mono ?_; rintro e w7 ⟨rfl, rfl⟩) | (go_at_call 83; with_reducible refine (HT2.out _).mono ?_; rintro e w7 ⟨rfl, rfl⟩) | (go_at_call 83; with_reducible refine (HT3.out _).mono ?_; rintro e w7 ⟨rfl, rfl⟩) | (go_at_call 83; with_reducible refine (HT4.out _).mono ?_; rintro e w7 ⟨rfl, rfl⟩) | (go_at_call 83; with_reducible refine (HT5.out _).mono ?_; rintro e w7 ⟨rfl, rfl⟩))
        go_ret
        exact ⟨⟨2, rfl, fun h => by cases h⟩, by first | exact HBr.out | exact HBr.out.trans (((Below.refl _ wr).alloc (Nat.le_refl _) _).mono HBr.out.size)⟩
      go_wp2_with (first | (go_at_call 83; with_reducible refine (HT0.out _).mono ?_; rintro e w7 ⟨rfl, rfl⟩) | (go_at_call 83; with_reducible refine (HT1.out _).mono ?_; rintro e w7 ⟨rfl, rfl⟩) | (go_at_call 83; with_reducible refine (HT2.out _).mono ?_; rintro e w7 ⟨rfl, rfl⟩) | (go_at_call 83; with_reducible refine (HT3.out _).mono ?_; rintro e w7 ⟨rfl, rfl⟩) | (go_at_call 83; with_reducible refine (HT4.out _).mono ?_; rintro e w7 ⟨rfl, rfl⟩) | (go_at_call 83; with_reducible refine (HT5.out _).mono ?_; rintro e w7 ⟨rfl, rfl⟩))
      go_roundw
      case rel => exact ⟨k + 1, by omega, by go_num, HBr.out.trans (((Below.refl _ wr).alloc (Nat.le_refl _) _).mono HBr.out.size), HA1.out ⟨HR0.out (by first | rfl | trivial), HR1.out (by first | rfl | trivial), HR2.out (by first | rfl | trivial), HR3.out (by first | rfl | trivial), HR4.out (by first | rfl | trivial), HR5.out (by first | rfl | trivial)⟩⟩
      case measure => simp [intOf]; omega
    · obtain rfl : k = l.length := by omega
      go_wp2_with fail
      go_ret
      exact ⟨⟨0, rfl, fun _ => ⟨HN.out.1, HN.out.2, fun m hm => by obtain ⟨j, hj, rfl⟩ := List.getElem_of_mem hm; exact HOk.out j hj hj⟩⟩, HBr.out⟩
end Go.Proofs.YtbhkfemebionnaaGreatDoor
