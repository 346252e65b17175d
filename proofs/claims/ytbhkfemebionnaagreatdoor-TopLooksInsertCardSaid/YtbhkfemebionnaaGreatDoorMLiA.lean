/- Lemmas and contracts of functions, joined for the claim: LkIj, LiPl, LiDf, LiCf, LiWo. -/
import Derived.Test.YtbhkfemebionnaaGreatDoorMLawP
import Derived.Test.YtbhkfemebionnaaGreatDoorMLoB
import Derived.Test.YtbhkfemebionnaaGreatDoorMPmB
import Derived.Test.YtbhkfemebionnaaGreatDoorMPack
import Derived.Test.YtbhkfemebionnaaGreatDoorMVal
namespace Go.Proofs.YtbhkfemebionnaaGreatDoor
open Go.RowKit

set_option maxRecDepth 100000 in
set_option maxHeartbeats 8000000 in
theorem nhomeq_any (ch atr : Int) (w : World) :
    Calls Tryz.prog 21 #[.agg #[.int .i64 ch, .int .i64 atr, .int .i64 (-1), .int .i64 0]] w fun e w' => e = .returned (.bool false) ∧ Below w.heap.size w w' := by
  obtain ⟨W, hW⟩ : ∃ W, W = w.alloc (.cells #[.int .i64 ch, .int .i64 atr, .int .i64 (-1), .int .i64 0] 62) := ⟨_, rfl⟩
  have hb0 : Below w.heap.size w W := by rw [hW]; exact (Below.refl _ _).alloc (Nat.le_refl _) _
  have hR : RowAt W w.heap.size #[.int .i64 ch, .int .i64 atr, .int .i64 (-1), .int .i64 0] 62 := by rw [hW]; exact RowAt.fresh w _ _
  have HKc := Lib.hid (show ∀ V, Below W.heap.size W V → V.cell? ⟨w.heap.size, 2, none⟩ = some (.int .i64 (-1)) ∧ V.cell? ⟨w.heap.size, 3, none⟩ = some (.int .i64 0) from fun V h => by
    have hR := hR.below h hR.lt
    exact ⟨hR.cell rfl, hR.cell rfl⟩)
  have HW := Lib.hid hW
  have HB0 := Lib.hid hb0
  clear hW hb0 hR
  go_enter Tryz.func21, Tryz.ntmps21
  go_wp2_with fail
  rw [← HW.out]
  have hB := (Below.refl W.heap.size W).drew
  obtain ⟨y2, y3⟩ := HKc.out _ hB
  refine wp_region_held_drew (S := fun w' => w'.cell? ⟨w.heap.size, 2, none⟩ = some (.int .i64 (-1)) ∧ w'.cell? ⟨w.heap.size, 3, none⟩ = some (.int .i64 0)) (by kernel_rfl) (by first | exact ⟨y2, y3⟩) (fun hHeld => ?_)
  refine wpAnyH_take (i := 0) (oi := ?_) (v := ?_) ?_ (by kernel_rfl) (by kernel_rfl) (by kernel_rfl) ?_ (Or.inl ⟨?_, ?_⟩) (by assumption) ?_
  rotate_left 2
  · (simp only [List.getElem?_toArray, List.getElem?_cons_zero]; rfl)
  · exact fun _ _ _ h => h
  · rfl
  · (intro w hSw; (try dsimp only at hSw); go_simp; try with_reducible rfl)
  simp only [Act.put, List.setIfInBounds_toArray, List.set_cons_zero, List.set_cons_succ]
  refine wpAnyH_take (i := 1) (oi := ?_) (v := ?_) ?_ (by kernel_rfl) (by kernel_rfl) (by kernel_rfl) ?_ (Or.inl ⟨?_, ?_⟩) (by assumption) ?_
  rotate_left 2
  · (simp only [List.getElem?_toArray, List.getElem?_cons_succ, List.getElem?_cons_zero]; rfl)
  · exact fun _ _ _ h => h
  · rfl
  · (intro w hSw; (try dsimp only at hSw); go_simp; try with_reducible rfl)
  simp only [Act.put, List.setIfInBounds_toArray, List.set_cons_zero, List.set_cons_succ]
  refine wpAnyH_ready (rs := [2]) (by kernel_rfl) (by simp) ?_
  refine AllReadyH.cons rfl (fun K hK => ?_) AllReadyH.nil
  go_simp
  go_at_call 22; refine (rhome_any _).mono ?_; rintro e w2 ⟨rfl, hb2⟩; replace hB := hB.trans (hb2.mono hB.size); clear hb2; obtain ⟨y2, y3⟩ := HKc.out _ hB
  go_wp2_with fail
  refine hK.out _ _ (by first | exact ⟨y2, y3⟩) (fun hHeld => ?_)
  clear hK K
  try simp only [Act.put, List.setIfInBounds_toArray, List.set_cons_zero, List.set_cons_succ]
  refine wpAnyH_take (i := 3) (oi := ?_) (v := ?_) ?_ (by kernel_rfl) (by kernel_rfl) (by kernel_rfl) ?_ (Or.inl ⟨?_, ?_⟩) (by assumption) ?_
  rotate_left 2
  · (simp only [List.getElem?_toArray, List.getElem?_cons_succ, List.getElem?_cons_zero]; rfl)
  · exact fun _ _ _ h => h
  · rfl
  · (intro w hSw; (try dsimp only at hSw); go_simp; try with_reducible rfl)
  simp only [Act.put, List.setIfInBounds_toArray, List.set_cons_zero, List.set_cons_succ]
  refine wpAnyH_take (i := 4) (oi := ?_) (v := ?_) ?_ (by kernel_rfl) (by kernel_rfl) (by kernel_rfl) ?_ (Or.inl ⟨?_, ?_⟩) (by assumption) ?_
  rotate_left 2
  · (simp only [List.getElem?_toArray, List.getElem?_cons_succ, List.getElem?_cons_zero]; rfl)
  · exact fun _ _ _ h => h
  · rfl
  · (intro w hSw; (try dsimp only at hSw); go_simp; try with_reducible rfl)
  simp only [Act.put, List.setIfInBounds_toArray, List.set_cons_zero, List.set_cons_succ]
  refine wpAnyH_done (by kernel_rfl) ?_ _
  go_wp2_with fail
  go_ret
  exact ⟨rfl, HB0.out.trans (hB.mono HB0.out.size)⟩
set_option maxRecDepth 100000 in
set_option maxHeartbeats 8000000 in
theorem nidxe_any (A : Option Addr) (n c : Nat) (l : List En) (w : World) (hl : shEn.In w A n l) (hh : ∀ x ∈ l, x.pa = -1 ∧ x.le = 0) (hn : n ≤ 1000000) :
    Calls Tryz.prog 43 #[.slice A n c, .func (.func 21) #[] #[]] w fun e w' => e = .returned (.int .i64 (-1)) ∧ Below w.heap.size w w' := by
  have hn2 : n = l.length := hl.1
  subst hn2
  have e79 := enters_of Tryz.func21 (by kernel_rfl) rfl
  have HL := Lib.hid hl
  have HH := Lib.hid hh
  clear hl hh
  go_enter Tryz.func43, Tryz.ntmps43
  go_wp2_with fail
  go_loopw [8] (fun iv wr => ∃ k : Nat, k ≤ l.length ∧ iv = .int .i64 k ∧ Below w.heap.size w wr) (fun iv _ => l.length - (intOf iv).toNat)
  case atStart => exact ⟨0, Nat.zero_le _, rfl, Below.refl _ _⟩
  case round =>
    obtain ⟨k, hk, rfl, hBr⟩ := hrel
    have HBr := Lib.hid hBr
    by_cases hlt : k < l.length
    · have i0 : (0 : Int) ≤ (k : Int) := by omega
      have i1 : (k : Int) < (l.length : Int) := by omega
      have w0 : IntKind.i64.wrap ((k : Int) + 1) = (k : Int) + 1 := IntWalk.i64_in _ (by omega)
      obtain ⟨b, o, rfl, hbl, hcell⟩ := en_at HL.out (by omega)
      obtain ⟨q0, q1, q2, q3⟩ := hcell k hlt
      obtain ⟨h2, h3⟩ := HH.out l[k] (List.getElem_mem hlt)
      rw [h2] at q2
      rw [h3] at q3
      generalize l[k].ch = ch at *
      generalize l[k].atr = atr at *
      have p0 := (hBr.cell (p := ⟨b, o + k * 4, none⟩) hbl).trans q0
      have p1 := (hBr.cell (p := ⟨b, o + k * 4 + 1, none⟩) hbl).trans q1
      have p2 := (hBr.cell (p := ⟨b, o + k * 4 + 2, none⟩) hbl).trans q2
      have p3 := (hBr.cell (p := ⟨b, o + k * 4 + 3, none⟩) hbl).trans q3
      have hbw := Nat.lt_of_lt_of_le hbl HBr.out.size
      clear hcell q0 q1 q2 q3 h2 h3
      go_wp2_with (go_at_call 21; with_reducible refine (nhomeq_any ch atr wr).mono ?_; rintro e w7 ⟨rfl, hb7⟩)
      go_roundw
      case rel => exact ⟨k + 1, by omega, by go_num, HBr.out.trans (hb7.mono HBr.out.size)⟩
      case measure => simp [intOf]; omega
    · obtain rfl : k = l.length := by omega
      go_wp2_with fail
      go_ret
      exact ⟨rfl, HBr.out⟩
set_option maxHeartbeats 4000000 in
theorem ncontE_any (A : Option Addr) (n c : Nat) (l : List En) (w : World) (hl : shEn.In w A n l) (hh : ∀ x ∈ l, x.pa = -1 ∧ x.le = 0) (hn : n ≤ 1000000) :
    Calls Tryz.prog 20 #[.slice A n c, .func (.func 21) #[] #[]] w fun e w' => e = .returned (.bool false) ∧ Below w.heap.size w w' := by
  have HI := Lib.hid (nidxe_any A n c l w hl hh hn)
  clear hl hh
  go_enter Tryz.func20, Tryz.ntmps20
  go_wp2_with fail
  refine HI.out.mono ?_
  rintro e w1 ⟨rfl, hb⟩
  go_wp2_with fail
  go_ret
  exact ⟨rfl, hb⟩
end Go.Proofs.YtbhkfemebionnaaGreatDoor

namespace Go.Proofs.YtbhkfemebionnaaGreatDoor
open Go.RowKit

set_option maxRecDepth 100000 in
set_option maxHeartbeats 16000000 in
theorem ndiff_any (A : Option Addr) (n c : Nat) (A2 : Option Addr) (n2 c2 : Nat) (l : List En) (w : World) (hl : shEn.In w A n l) (hl2 : shEn.In w A2 n2 l) (hn : n ≤ 1000000) :
    Calls Tryz.prog 37 #[.slice A n c, .slice A2 n2 c2] w fun e w' => e = .returned (.slice none 0 0) ∧ Below w.heap.size w w' := by
  have h1 : n = l.length := hl.1
  have h2 : n2 = l.length := hl2.1
  subst h1
  subst h2
  have HL := Lib.hid hl
  have HL2 := Lib.hid hl2
  clear hl hl2
  go_enter Tryz.func37, Tryz.ntmps37
  go_wp2_with fail
  go_loopw [5, 10] (fun vo iv wr => ∃ k : Nat, k ≤ l.length ∧ vo = .slice none 0 0 ∧ iv = .int .i64 k ∧ Below w.heap.size w wr) (fun _ iv _ => l.length - (intOf iv).toNat)
  case atStart => exact ⟨0, Nat.zero_le _, rfl, rfl, Below.refl _ _⟩
  case round =>
    obtain ⟨k, hk, rfl, rfl, hB⟩ := hrel
    by_cases hlt : k < l.length
    · have i0 : (0 : Int) ≤ (k : Int) := by omega
      have i1 : (k : Int) < (l.length : Int) := by omega
      have w0 : IntKind.i64.wrap ((k : Int) + 1) = (k : Int) + 1 := IntWalk.i64_in _ (by omega)
      obtain ⟨b, o, rfl, hbl, hcell⟩ := en_at HL.out (by omega)
      obtain ⟨b2, o2, rfl, hbl2, hcell2⟩ := en_at HL2.out (by omega)
      obtain ⟨p0, p1, p2, p3⟩ := hcell k hlt
      obtain ⟨r0, r1, r2, r3⟩ := hcell2 k hlt
      generalize l[k] = m at *
      obtain ⟨ch, atr, pa, le⟩ := m
      dsimp only at p0 p1 p2 p3 r0 r1 r2 r3
      have r0 := (hB.cell (p := ⟨b2, o2 + k * 4, none⟩) hbl2).trans r0
      have r1 := (hB.cell (p := ⟨b2, o2 + k * 4 + 1, none⟩) hbl2).trans r1
      have r2 := (hB.cell (p := ⟨b2, o2 + k * 4 + 2, none⟩) hbl2).trans r2
      have r3 := (hB.cell (p := ⟨b2, o2 + k * 4 + 3, none⟩) hbl2).trans r3
      obtain ⟨W3, hW3⟩ : ∃ W3, W3 = wr.alloc (.cells #[.int .i64 ch, .int .i64 atr, .int .i64 pa, .int .i64 le] 62) := ⟨_, rfl⟩
      have hb3 : Below wr.heap.size wr W3.drew := by rw [hW3]; exact ((Below.refl _ _).alloc (Nat.le_refl _) _).drew
      have hR3 : RowAt W3.drew wr.heap.size #[.int .i64 ch, .int .i64 atr, .int .i64 pa, .int .i64 le] 62 := by rw [hW3]; exact RowAt.fresh wr _ _
      have hB3 := hB.trans (hb3.mono hB.size)
      have y2 := hR3.cell (j := 2) (u := .int .i64 pa) rfl
      have y3 := hR3.cell (j := 3) (u := .int .i64 le) rfl
      have p2 := (hB3.cell (p := ⟨b, o + k * 4 + 2, none⟩) hbl).trans p2
      have p3 := (hB3.cell (p := ⟨b, o + k * 4 + 3, none⟩) hbl).trans p3
      have HB3 := Lib.hid hB3
      have HW3 := Lib.hid hW3
      clear hcell hcell2 hW3 hb3 hR3 hB3 hB
      go_wp2_with fail
      rw [← HW3.out]
      refine wp_region_held_drew (S := fun w' => w'.cell? ⟨wr.heap.size, 2, none⟩ = some (.int .i64 pa) ∧ w'.cell? ⟨wr.heap.size, 3, none⟩ = some (.int .i64 le) ∧ w'.cell? ⟨b, o + k * 4 + 2, none⟩ = some (.int .i64 pa) ∧ w'.cell? ⟨b, o + k * 4 + 3, none⟩ = some (.int .i64 le)) (by kernel_rfl) (by first | exact ⟨y2, y3, p2, p3⟩) (fun hHeld => ?_)
      refine wpAnyH_take (i := 0) (oi := ?_) (v := ?_) ?_ (by kernel_rfl) (by kernel_rfl) (by kernel_rfl) ?_ (Or.inl ⟨?_, ?_⟩) (by assumption) ?_
      rotate_left 2
      · (simp only [List.getElem?_toArray, List.getElem?_cons_zero]; rfl)
      · exact fun _ _ _ h => h
      · rfl
      · (intro w hSw; (try dsimp only at hSw); go_simp; try with_reducible rfl)
      simp only [Act.put, List.setIfInBounds_toArray, List.set_cons_zero, List.set_cons_succ]
      refine wpAnyH_take (i := 1) (oi := ?_) (v := ?_) ?_ (by kernel_rfl) (by kernel_rfl) (by kernel_rfl) ?_ (Or.inl ⟨?_, ?_⟩) (by assumption) ?_
      rotate_left 2
      · (simp only [List.getElem?_toArray, List.getElem?_cons_succ, List.getElem?_cons_zero]; rfl)
      · exact fun _ _ _ h => h
      · rfl
      · (intro w hSw; (try dsimp only at hSw); go_simp; try with_reducible rfl)
      simp only [Act.put, List.setIfInBounds_toArray, List.set_cons_zero, List.set_cons_succ]
      refine wpAnyH_take (i := 2) (oi := ?_) (v := ?_) ?_ (by kernel_rfl) (by kernel_rfl) (by kernel_rfl) ?_ (Or.inl ⟨?_, ?_⟩) (by assumption) ?_
      rotate_left 2
      · (simp only [List.getElem?_toArray, List.getElem?_cons_succ, List.getElem?_cons_zero]; rfl)
      · exact fun _ _ _ h => h
      · rfl
      · (intro w hSw; (try dsimp only at hSw); go_simp; try with_reducible rfl)
      simp only [Act.put, List.setIfInBounds_toArray, List.set_cons_zero, List.set_cons_succ]
      refine wpAnyH_take (i := 3) (oi := ?_) (v := ?_) ?_ (by kernel_rfl) (by kernel_rfl) (by kernel_rfl) ?_ (Or.inl ⟨?_, ?_⟩) (by assumption) ?_
      rotate_left 2
      · (simp only [List.getElem?_toArray, List.getElem?_cons_succ, List.getElem?_cons_zero]; rfl)
      · exact fun _ _ _ h => h
      · rfl
      · (intro w hSw; (try dsimp only at hSw); go_simp; try with_reducible rfl)
      simp only [Act.put, List.setIfInBounds_toArray, List.set_cons_zero, List.set_cons_succ]
      refine wpAnyH_take (i := 4) (oi := ?_) (v := ?_) ?_ (by kernel_rfl) (by kernel_rfl) (by kernel_rfl) ?_ (Or.inl ⟨?_, ?_⟩) (by assumption) ?_
      rotate_left 2
      · (simp only [List.getElem?_toArray, List.getElem?_cons_succ, List.getElem?_cons_zero]; rfl)
      · exact fun _ _ _ h => h
      · rfl
      · (intro w hSw; (try dsimp only at hSw); go_simp; try with_reducible rfl)
      simp only [Act.put, List.setIfInBounds_toArray, List.set_cons_zero, List.set_cons_succ]
      refine wpAnyH_take (i := 5) (oi := ?_) (v := ?_) ?_ (by kernel_rfl) (by kernel_rfl) (by kernel_rfl) ?_ (Or.inl ⟨?_, ?_⟩) (by assumption) ?_
      rotate_left 2
      · (simp only [List.getElem?_toArray, List.getElem?_cons_succ, List.getElem?_cons_zero]; rfl)
      · exact fun _ _ _ h => h
      · rfl
      · (intro w hSw; (try dsimp only at hSw); go_simp; try with_reducible rfl)
      simp only [Act.put, List.setIfInBounds_toArray, List.set_cons_zero, List.set_cons_succ]
      refine wpAnyH_take (i := 6) (oi := ?_) (v := ?_) ?_ (by kernel_rfl) (by kernel_rfl) (by kernel_rfl) ?_ (Or.inl ⟨?_, ?_⟩) (by assumption) ?_
      rotate_left 2
      · (simp only [List.getElem?_toArray, List.getElem?_cons_succ, List.getElem?_cons_zero]; rfl)
      · exact fun _ _ _ h => h
      · rfl
      · (intro w hSw; (try dsimp only at hSw); go_simp; try with_reducible rfl)
      simp only [Act.put, List.setIfInBounds_toArray, List.set_cons_zero, List.set_cons_succ]
      refine wpAnyH_take (i := 7) (oi := ?_) (v := ?_) ?_ (by kernel_rfl) (by kernel_rfl) (by kernel_rfl) ?_ (Or.inl ⟨?_, ?_⟩) (by assumption) ?_
      rotate_left 2
      · (simp only [List.getElem?_toArray, List.getElem?_cons_succ, List.getElem?_cons_zero]; rfl)
      · exact fun _ _ _ h => h
      · rfl
      · (intro w hSw; (try dsimp only at hSw); go_simp; try with_reducible rfl)
      simp only [Act.put, List.setIfInBounds_toArray, List.set_cons_zero, List.set_cons_succ]
      refine wpAnyH_done (by kernel_rfl) ?_ _
      go_wp2_with fail
      go_roundw
      case rel => exact ⟨k + 1, hlt, rfl, by go_num, HB3.out⟩
      case measure => simp [intOf]; omega
    · obtain rfl : k = l.length := by omega
      go_wp2_with fail
      go_ret
      exact ⟨rfl, hB⟩
set_option maxRecDepth 100000 in
set_option maxHeartbeats 16000000 in
theorem nsteps_any (no pri : Int) (A : Option Addr) (n c : Nat) (X : List CV) (s : ByteArray) (w : World) (hX : InC w A n X) (hs : ∀ x ∈ X, x.fitS) (hok : LsOK no pri X) (h1 : s.size ≤ 9223372036854775807) (h2 : numE s.data.toList = 0) (k : Nat) (hin : idxOf (numQ s) X = (k : Int)) (heq : lkS (X.map CV.sk) k = lkS (X.map CV.sk) (k + 1)) :
    Calls Tryz.prog 18 #[.agg #[.int .i64 no, .int .i64 pri, .slice A n c], .string s] w fun e w' => e = .returned (.tuple #[.slice none 0 0, .int .i64 0]) ∧ Below w.heap.size w w' := by
  have hn2 : n = X.length := hX.len
  subst hn2
  have hk : k < X.length := by have := idxOf_lt (p := numQ s) X; omega
  have hfw := hok.few
  obtain ⟨W, hW⟩ : ∃ W, W = w.alloc (.cells #[.int .i64 no, .int .i64 pri, .slice A X.length c] 24) := ⟨_, rfl⟩
  have hB0 : Below w.heap.size w W := by rw [hW]; exact (Below.refl _ _).alloc (Nat.le_refl _) _
  have HR := Lib.hid (show RowAt W w.heap.size #[.int .i64 no, .int .i64 pri, .slice A X.length c] 24 by rw [hW]; exact RowAt.fresh w _ _)
  have hP := ntplace_any no pri A X.length c X s W (hX.below hB0) hs hok h1 h2 (by omega) (by omega)
  rw [hin] at hP
  have HP := Lib.hid hP
  have HL0 := Lib.hid (fun V (h : Below W.heap.size W V) => ntlook_any no pri A X.length c X k V (hX.below (hB0.trans (h.mono hB0.size))) (ok_ms hok) (by omega) (by omega))
  have HL := Lib.hid (fun V (h : Below W.heap.size W V) => ntlook_any no pri A X.length c X (k + 1) V (hX.below (hB0.trans (h.mono hB0.size))) (ok_ms hok) (by omega) (by omega))
  have HI := Lib.hid (show ((k + 1 : Nat) : Int) - 1 = (k : Int) by omega)
  rw [HI.out] at HL
  rw [← heq] at HL
  have hbd : (lkS (X.map CV.sk) k).length ≤ 1000000 := by
    unfold lkS
    rw [List.length_map]
    have h7 := fp_len (X.map CV.sk)
    have h8 := psS_len (ok_ms hok)
    omega
  generalize lkS (X.map CV.sk) k = L at *
  have HBd := Lib.hid hbd
  have HW := Lib.hid hW
  have HB0 := Lib.hid hB0
  have v1 : IntKind.i64.wrap ((k : Int) - 1) = (k : Int) - 1 := IntWalk.i64_in _ (by omega)
  clear hX hs hok h1 h2 hin hW hB0 hP hk hfw heq hbd
  go_enter Tryz.func18, Tryz.ntmps18
  go_wp2_with fail
  rw [← HW.out]
  refine HP.out.mono ?_
  rintro e w1 ⟨rfl, hb⟩
  have HKc := Lib.hid (show ∀ V, Below w1.heap.size w1 V → V.cell? ⟨w.heap.size, 0, none⟩ = some (.int .i64 no) ∧ V.cell? ⟨w.heap.size, 1, none⟩ = some (.int .i64 pri) ∧ V.cell? ⟨w.heap.size, 2, none⟩ = some (.slice A X.length c) from fun V h => by
    have hR := (HR.out.below hb HR.out.lt).below h (Nat.lt_of_lt_of_le HR.out.lt hb.size)
    exact ⟨hR.cell rfl, hR.cell rfl, hR.cell rfl⟩)
  have HB1 := Lib.hid hb
  clear hb
  go_wp2_with fail
  have hB := (Below.refl w1.heap.size w1).drew
  obtain ⟨c0, c1, c2⟩ := HKc.out _ hB
  refine wp_region_held_drew (S := fun w' => w'.cell? ⟨w.heap.size, 0, none⟩ = some (.int .i64 no) ∧ w'.cell? ⟨w.heap.size, 1, none⟩ = some (.int .i64 pri) ∧ w'.cell? ⟨w.heap.size, 2, none⟩ = some (.slice A X.length c)) (by kernel_rfl) (by first | exact ⟨c0, c1, c2⟩) (fun hHeld => ?_)
  refine wpAnyH_take (i := 0) (oi := ?_) (v := ?_) ?_ (by kernel_rfl) (by kernel_rfl) (by kernel_rfl) ?_ (Or.inl ⟨?_, ?_⟩) (by assumption) ?_
  rotate_left 2
  · (simp only [List.getElem?_toArray, List.getElem?_cons_zero]; rfl)
  · exact fun _ _ _ h => h
  · rfl
  · (intro w hSw; (try dsimp only at hSw); go_simp; try with_reducible rfl)
  simp only [Act.put, List.setIfInBounds_toArray, List.set_cons_zero, List.set_cons_succ]
  refine wpAnyH_take (i := 1) (oi := ?_) (v := ?_) ?_ (by kernel_rfl) (by kernel_rfl) (by kernel_rfl) ?_ (Or.inl ⟨?_, ?_⟩) (by assumption) ?_
  rotate_left 2
  · (simp only [List.getElem?_toArray, List.getElem?_cons_succ, List.getElem?_cons_zero]; rfl)
  · exact fun _ _ _ h => h
  · rfl
  · (intro w hSw; (try dsimp only at hSw); go_simp; try with_reducible rfl)
  simp only [Act.put, List.setIfInBounds_toArray, List.set_cons_zero, List.set_cons_succ]
  refine wpAnyH_take (i := 2) (oi := ?_) (v := ?_) ?_ (by kernel_rfl) (by kernel_rfl) (by kernel_rfl) ?_ (Or.inl ⟨?_, ?_⟩) (by assumption) ?_
  rotate_left 2
  · (simp only [List.getElem?_toArray, List.getElem?_cons_succ, List.getElem?_cons_zero]; rfl)
  · exact fun _ _ _ h => h
  · rfl
  · (intro w hSw; (try dsimp only at hSw); go_simp; try with_reducible rfl)
  simp only [Act.put, List.setIfInBounds_toArray, List.set_cons_zero, List.set_cons_succ]
  refine wpAnyH_take (i := 4) (oi := ?_) (v := ?_) ?_ (by kernel_rfl) (by kernel_rfl) (by kernel_rfl) ?_ (Or.inl ⟨?_, ?_⟩) (by assumption) ?_
  rotate_left 2
  · (simp only [List.getElem?_toArray, List.getElem?_cons_succ, List.getElem?_cons_zero]; rfl)
  · exact fun _ _ _ h => h
  · rfl
  · (intro w hSw; (try dsimp only at hSw); go_simp; try with_reducible rfl)
  simp only [Act.put, List.setIfInBounds_toArray, List.set_cons_zero, List.set_cons_succ]
  refine wpAnyH_take (i := 5) (oi := ?_) (v := ?_) ?_ (by kernel_rfl) (by kernel_rfl) (by kernel_rfl) ?_ (Or.inl ⟨?_, ?_⟩) (by assumption) ?_
  rotate_left 2
  · (simp only [List.getElem?_toArray, List.getElem?_cons_succ, List.getElem?_cons_zero]; rfl)
  · exact fun _ _ _ h => h
  · rfl
  · (intro w hSw; (try dsimp only at hSw); go_simp; try with_reducible rfl)
  simp only [Act.put, List.setIfInBounds_toArray, List.set_cons_zero, List.set_cons_succ]
  refine wpAnyH_ready (rs := [3]) (by kernel_rfl) (by simp) ?_
  refine AllReadyH.cons rfl (fun K hK => ?_) AllReadyH.nil
  go_simp
  go_at_call 31; refine (HL0.out _ (HB1.out.trans (hB.mono HB1.out.size))).mono ?_; rintro e w2 ⟨r2, rfl, A2, c2x, rfl, ho2, hb2⟩; have HI2 := Lib.hid (Sh.In.of_own (S := shEn) ho2 rfl); replace hB := hB.trans (hb2.mono hB.size); clear ho2 hb2; obtain ⟨c0, c1, c2⟩ := HKc.out _ hB
  go_wp2_with fail
  refine hK.out _ _ (by first | exact ⟨c0, c1, c2⟩) (fun hHeld => ?_)
  clear hK K
  try simp only [Act.put, List.setIfInBounds_toArray, List.set_cons_zero, List.set_cons_succ]
  refine wpAnyH_ready (rs := [6]) (by kernel_rfl) (by simp) ?_
  refine AllReadyH.cons rfl (fun K hK => ?_) AllReadyH.nil
  go_simp
  go_at_call 31; refine (HL.out _ (HB1.out.trans (hB.mono HB1.out.size))).mono ?_; rintro e w3 ⟨r3, rfl, A3, c3x, rfl, ho3, hb3⟩; have HI3 := Lib.hid (Sh.In.of_own (S := shEn) ho3 rfl); have HI2b := Lib.hid (HI2.out.below hb3); replace hB := hB.trans (hb3.mono hB.size); clear ho3 hb3; obtain ⟨c0, c1, c2⟩ := HKc.out _ hB
  go_wp2_with fail
  refine hK.out _ _ (by first | exact ⟨c0, c1, c2⟩) (fun hHeld => ?_)
  clear hK K
  try simp only [Act.put, List.setIfInBounds_toArray, List.set_cons_zero, List.set_cons_succ]
  refine wpAnyH_ready (rs := [7]) (by kernel_rfl) (by simp) ?_
  refine AllReadyH.cons rfl (fun K hK => ?_) AllReadyH.nil
  go_simp
  go_at_call 37; refine (ndiff_any A2 L.length c2x A3 L.length c3x L _ HI2b.out HI3.out HBd.out).mono ?_; rintro e w4 ⟨rfl, hb4⟩; replace hB := hB.trans (hb4.mono hB.size); clear hb4; obtain ⟨c0, c1, c2⟩ := HKc.out _ hB
  go_wp2_with fail
  refine hK.out _ _ (by first | exact ⟨c0, c1, c2⟩) (fun hHeld => ?_)
  clear hK K
  try simp only [Act.put, List.setIfInBounds_toArray, List.set_cons_zero, List.set_cons_succ]
  refine wpAnyH_take (i := 8) (oi := ?_) (v := ?_) ?_ (by kernel_rfl) (by kernel_rfl) (by kernel_rfl) ?_ (Or.inl ⟨?_, ?_⟩) (by assumption) ?_
  rotate_left 2
  · (simp only [List.getElem?_toArray, List.getElem?_cons_succ, List.getElem?_cons_zero]; rfl)
  · exact fun _ _ _ h => h
  · rfl
  · (intro w hSw; (try dsimp only at hSw); go_simp; try with_reducible rfl)
  simp only [Act.put, List.setIfInBounds_toArray, List.set_cons_zero, List.set_cons_succ]
  refine wpAnyH_take (i := 9) (oi := ?_) (v := ?_) ?_ (by kernel_rfl) (by kernel_rfl) (by kernel_rfl) ?_ (Or.inl ⟨?_, ?_⟩) (by assumption) ?_
  rotate_left 2
  · (simp only [List.getElem?_toArray, List.getElem?_cons_succ, List.getElem?_cons_zero]; rfl)
  · exact fun _ _ _ h => h
  · rfl
  · (intro w hSw; (try dsimp only at hSw); go_simp; try with_reducible rfl)
  simp only [Act.put, List.setIfInBounds_toArray, List.set_cons_zero, List.set_cons_succ]
  refine wpAnyH_done (by kernel_rfl) ?_ _
  go_wp2_with fail
  go_ret2
  exact ⟨rfl, HB0.out.trans ((HB1.out.trans (hB.mono HB1.out.size)).mono HB0.out.size)⟩
end Go.Proofs.YtbhkfemebionnaaGreatDoor

namespace Go.Proofs.YtbhkfemebionnaaGreatDoor
open Go.RowKit

set_option maxRecDepth 100000 in
set_option maxHeartbeats 8000000 in
theorem rplace_any (no pri : Int) (A : Option Addr) (n c : Nat) (X : List CV) (s : ByteArray) (w : World) (hX : InC w A n X) (hn : n ≤ 9223372036854775807) :
    Calls Tryz.prog 14 #[.agg #[.int .i64 no, .int .i64 pri, .slice A n c], .string s] w fun e w' => e = .returned (.int .i64 (idxOf (numQ s) X)) ∧ Below w.heap.size w w' := by
  have hn2 : n = X.length := hX.len
  subst hn2
  obtain ⟨E, hE⟩ : ∃ E, E = idxOf (numQ s) X := ⟨_, rfl⟩
  rw [← hE]
  have HE := Lib.hid hE
  clear hE
  obtain ⟨W, hW⟩ : ∃ W, W = w.alloc (.cells #[.int .i64 no, .int .i64 pri, .slice A X.length c] 24) := ⟨_, rfl⟩
  have hB0 : Below w.heap.size w W := by rw [hW]; exact (Below.refl _ _).alloc (Nat.le_refl _) _
  have HR := Lib.hid (show RowAt W w.heap.size #[.int .i64 no, .int .i64 pri, .slice A X.length c] 24 by rw [hW]; exact RowAt.fresh w _ _)
  have HL := Lib.hid (hX.below hB0)
  have HW := Lib.hid hW
  have HB0 := Lib.hid hB0
  clear hX hW hB0
  go_enter Tryz.func14, Tryz.ntmps14
  go_wp2_with fail
  rw [← HW.out]
  go_loopw [5] (fun iv wr => ∃ k : Nat, k ≤ X.length ∧ iv = .int .i64 k ∧ Below W.heap.size W wr ∧ ∀ j (h : j < X.length), j < k → numQ s X[j] = false) (fun iv _ => X.length - (intOf iv).toNat)
  case atStart => exact ⟨0, Nat.zero_le _, rfl, Below.refl _ _, fun j _ h => absurd h (Nat.not_lt_zero _)⟩
  case round =>
    obtain ⟨k, hk, rfl, hBr, hall⟩ := hrel
    have HBr := Lib.hid hBr
    have HAll := Lib.hid hall
    have hR := HR.out.below hBr HR.out.lt
    have d2 := hR.cell (j := 2) (u := .slice A X.length c) rfl
    clear hall hR
    by_cases hlt : k < X.length
    · have i0 : (0 : Int) ≤ (k : Int) := by omega
      have i1 : (k : Int) < (X.length : Int) := by omega
      have w0 : IntKind.i64.wrap ((k : Int) + 1) = (k : Int) + 1 := IntWalk.i64_in _ (by omega)
      obtain ⟨b, o, rfl, hbl, hcell⟩ := cu_at HL.out (by omega)
      obtain ⟨q0, -⟩ := hcell k hlt
      have p0 := (hBr.cell (p := ⟨b, o + k * 9, none⟩) hbl).trans q0
      have HQ := Lib.hid (bytes_bq X[k].c.num s)
      have HY := Lib.hid (show numQ s X[k] = true → E = k from fun h => HE.out.trans (idxOf_some hlt (fun i hi => HAll.out i (by omega) hi) h))
      have HN := Lib.hid (show numQ s X[k] = false → ∀ j (h : j < X.length), j < k + 1 → numQ s X[j] = false from fun h j hj hjk => by
        rcases Nat.lt_or_eq_of_le (Nat.le_of_lt_succ hjk) with h1 | h1
        · exact HAll.out j hj h1
        · subst h1; exact h)
      have hnq : numQ s X[k] = decide (X[k].c.num = s) := rfl
      rw [hnq] at HY HN
      generalize X[k].c.num = num at *
      clear hcell q0 hnq
      cases hv : decide (num = s)
      · have e1 : (num.toList == s.toList) = false := by rw [HQ.out]; exact hv
        have HN2 := Lib.hid (HN.out hv)
        clear hv
        go_wp2_with fail
        go_roundw
        case rel => exact ⟨k + 1, by omega, by go_num, HBr.out, HN2.out⟩
        case measure => simp [intOf]; omega
      · have e1 : (num.toList == s.toList) = true := by rw [HQ.out]; exact hv
        have HY2 := Lib.hid (HY.out hv)
        clear hv
        go_wp2_with fail
        go_ret
        exact ⟨by rw [HY2.out]; rfl, HB0.out.trans (HBr.out.mono HB0.out.size)⟩
    · obtain rfl : k = X.length := by omega
      have HY2 := Lib.hid (HE.out.trans (idxOf_none (fun i hi => HAll.out i hi hi)))
      go_wp2_with fail
      go_ret
      exact ⟨by rw [HY2.out]; rfl, HB0.out.trans (HBr.out.mono HB0.out.size)⟩
end Go.Proofs.YtbhkfemebionnaaGreatDoor

namespace Go.Proofs.YtbhkfemebionnaaGreatDoor
open Go.RowKit

set_option maxHeartbeats 4000000 in
theorem nwo1_any (B : Nat) (s : ByteArray) (num lab : ByteArray) (MA : Option Addr) (mn mc : Nat) (PA : Option Addr) (pn pc : Nat) (blk mrk : Bool) (fol : Int) (lnk : ByteArray) (lps : Int) (w : World) (hb : B < w.heap.size) (hc : w.cell? ⟨B, 0, none⟩ = some (.string s)) :
    Calls Tryz.prog 63 #[.agg #[.string num, .string lab, .slice MA mn mc, .slice PA pn pc, .bool blk, .bool mrk, .int .i64 fol, .string lnk, .int .i64 lps], .pointer (some ⟨B, 0, none⟩)] w fun e w' => e = .returned (.bool (decide (num = s))) ∧ Below w.heap.size w w' := by
  have hB0 : Below w.heap.size w (w.alloc (.cells #[.string num, .string lab, .slice MA mn mc, .slice PA pn pc, .bool blk, .bool mrk, .int .i64 fol, .string lnk, .int .i64 lps] 34)) := (Below.refl _ _).alloc (Nat.le_refl _) _
  have hc2 := (hB0.cell (p := ⟨B, 0, none⟩) hb).trans hc
  have hne : B ≠ w.heap.size := by omega
  have hbw := Nat.lt_of_lt_of_le hb hB0.size
  have HQ := Lib.hid (bytes_bq num s)
  go_enter Tryz.func63, Tryz.ntmps63
  go_wp2_with fail
  go_ret
  exact ⟨by rw [← HQ.out]; rfl, hB0⟩
set_option maxRecDepth 100000 in
set_option maxHeartbeats 8000000 in
theorem nidxw_any (B : Nat) (s : ByteArray) (A : Option Addr) (n c : Nat) (X : List CV) (w : World) (hX : InC w A n X) (hb : B < w.heap.size) (hc : w.cell? ⟨B, 0, none⟩ = some (.string s)) (hn : n ≤ 9223372036854775807) :
    Calls Tryz.prog 89 #[.slice A n c, .func (.func 63) #[] #[.pointer (some ⟨B, 0, none⟩)]] w fun e w' => e = .returned (.int .i64 (idxOf (numQ s) X)) ∧ Below w.heap.size w w' := by
  have hn2 : n = X.length := hX.len
  subst hn2
  have e79 := enters_of Tryz.func63 (by kernel_rfl) rfl
  have HL := Lib.hid hX
  have HB := Lib.hid hb
  have HCc := Lib.hid hc
  clear hX hb hc
  obtain ⟨E, hE⟩ : ∃ E, E = idxOf (numQ s) X := ⟨_, rfl⟩
  rw [← hE]
  have HE := Lib.hid hE
  clear hE
  go_enter Tryz.func89, Tryz.ntmps89
  go_wp2_with fail
  go_loopw [8] (fun iv wr => ∃ k : Nat, k ≤ X.length ∧ iv = .int .i64 k ∧ Below w.heap.size w wr ∧ ∀ j (h : j < X.length), j < k → numQ s X[j] = false) (fun iv _ => X.length - (intOf iv).toNat)
  case atStart => exact ⟨0, Nat.zero_le _, rfl, Below.refl _ _, fun j _ h => absurd h (Nat.not_lt_zero _)⟩
  case round =>
    obtain ⟨k, hk, rfl, hBr, hall⟩ := hrel
    have HBr := Lib.hid hBr
    have HAll := Lib.hid hall
    clear hall
    by_cases hlt : k < X.length
    · have i0 : (0 : Int) ≤ (k : Int) := by omega
      have i1 : (k : Int) < (X.length : Int) := by omega
      have w0 : IntKind.i64.wrap ((k : Int) + 1) = (k : Int) + 1 := IntWalk.i64_in _ (by omega)
      obtain ⟨b, o, rfl, hbl, hcell⟩ := cu_at HL.out (by omega)
      have hck := hcell k hlt
      have HY := Lib.hid (show numQ s X[k] = true → E = k from fun h => HE.out.trans (idxOf_some hlt (fun i hi => HAll.out i (by omega) hi) h))
      have HN := Lib.hid (show numQ s X[k] = false → ∀ j (h : j < X.length), j < k + 1 → numQ s X[j] = false from fun h j hj hjk => by
        rcases Nat.lt_or_eq_of_le (Nat.le_of_lt_succ hjk) with h1 | h1
        · exact HAll.out j hj h1
        · subst h1; exact h)
      obtain ⟨x, hx⟩ : ∃ x, x = X[k] := ⟨_, rfl⟩
      rw [← hx] at hck HY HN
      clear hx
      obtain ⟨⟨num, lab, MA, mn, mc, PA, pn, pc, blk, mrk, fol, lnk, lps⟩, ms, ts⟩ := x
      obtain ⟨q0, q1, q2, q3, q4, q5, q6, q7, q8⟩ := hck
      have p0 := (hBr.cell (p := ⟨b, o + k * 9, none⟩) hbl).trans q0
      have p1 := (hBr.cell (p := ⟨b, o + k * 9 + 1, none⟩) hbl).trans q1
      have p2 := (hBr.cell (p := ⟨b, o + k * 9 + 2, none⟩) hbl).trans q2
      have p3 := (hBr.cell (p := ⟨b, o + k * 9 + 3, none⟩) hbl).trans q3
      have p4 := (hBr.cell (p := ⟨b, o + k * 9 + 4, none⟩) hbl).trans q4
      have p5 := (hBr.cell (p := ⟨b, o + k * 9 + 5, none⟩) hbl).trans q5
      have p6 := (hBr.cell (p := ⟨b, o + k * 9 + 6, none⟩) hbl).trans q6
      have p7 := (hBr.cell (p := ⟨b, o + k * 9 + 7, none⟩) hbl).trans q7
      have p8 := (hBr.cell (p := ⟨b, o + k * 9 + 8, none⟩) hbl).trans q8
      have hbw := Nat.lt_of_lt_of_le hbl HBr.out.size
      have hM := nwo1_any B s num lab MA mn mc PA pn pc blk mrk fol lnk lps wr (Nat.lt_of_lt_of_le HB.out hBr.size) ((hBr.cell (p := ⟨B, 0, none⟩) HB.out).trans HCc.out)
      clear hcell q0 q1 q2 q3 q4 q5 q6 q7 q8
      cases hv : decide (num = s)
      · rw [hv] at hM
        have HM := Lib.hid hM
        have HN2 := Lib.hid (HN.out hv)
        clear hM hv
        go_wp2_with (go_at_call 63; with_reducible refine HM.out.mono ?_; rintro e w7 ⟨rfl, hb7⟩)
        go_roundw
        case rel => exact ⟨k + 1, by omega, by go_num, HBr.out.trans (hb7.mono HBr.out.size), HN2.out⟩
        case measure => simp [intOf]; omega
      · rw [hv] at hM
        have HM := Lib.hid hM
        have HY2 := Lib.hid (HY.out hv)
        clear hM hv
        go_wp2_with (go_at_call 63; with_reducible refine HM.out.mono ?_; rintro e w7 ⟨rfl, hb7⟩)
        go_ret
        exact ⟨by rw [HY2.out]; rfl, HBr.out.trans (hb7.mono HBr.out.size)⟩
    · obtain rfl : k = X.length := by omega
      have HY2 := Lib.hid (HE.out.trans (idxOf_none (fun i hi => HAll.out i hi hi)))
      go_wp2_with fail
      go_ret
      exact ⟨by rw [HY2.out]; rfl, HBr.out⟩
set_option maxRecDepth 100000 in
set_option maxHeartbeats 8000000 in
theorem ndelw_any (B : Nat) (s : ByteArray) (A : Option Addr) (n c : Nat) (X : List CV) (w : World) (hX : InC w A n X) (hb : B < w.heap.size) (hc : w.cell? ⟨B, 0, none⟩ = some (.string s)) (hn : n ≤ 9223372036854775807) (hno : idxOf (numQ s) X = -1) :
    Calls Tryz.prog 62 #[.slice A n c, .func (.func 63) #[] #[.pointer (some ⟨B, 0, none⟩)]] w fun e w' => e = .returned (.slice A n c) ∧ Below w.heap.size w w' := by
  have hI := nidxw_any B s A n c X w hX hb hc hn
  rw [hno] at hI
  have HI := Lib.hid hI
  clear hI hX hb hc hno
  go_enter Tryz.func62, Tryz.ntmps62
  go_wp2_with fail
  refine HI.out.mono ?_
  rintro e w1 ⟨rfl, hb1⟩
  go_wp2_with fail
  go_ret
  exact ⟨rfl, hb1⟩
set_option maxRecDepth 100000 in
set_option maxHeartbeats 8000000 in
theorem nwithout_any (no pri : Int) (A : Option Addr) (n c : Nat) (X : List CV) (s : ByteArray) (w : World) (hX : InC w A n X) (hn : n ≤ 1000) (hno : idxOf (numQ s) X = -1) :
    Calls Tryz.prog 34 #[.agg #[.int .i64 no, .int .i64 pri, .slice A n c], .string s] w fun e w' => ∃ v', e = .returned v' ∧ w'.ownsRow w.heap.size 34 9 v' n (shCu.vs (X.map CV.c)) ∧ Below w.heap.size w w' := by
  obtain ⟨W0, hW0⟩ : ∃ W0, W0 = w.alloc (.cells #[.int .i64 no, .int .i64 pri, .slice A n c] 80) := ⟨_, rfl⟩
  obtain ⟨W1, hW1⟩ : ∃ W1, W1 = W0.alloc (.cells #[.string s] 9) := ⟨_, rfl⟩
  have hB0 : Below w.heap.size w W0 := by rw [hW0]; exact (Below.refl _ _).alloc (Nat.le_refl _) _
  have hB1 : Below W0.heap.size W0 W1 := by rw [hW1]; exact (Below.refl _ _).alloc (Nat.le_refl _) _
  have hs0 : W0.heap.size = w.heap.size + 1 := by rw [hW0]; simp
  have hRs : RowAt W1 (w.heap.size + 1) #[.string s] 9 := by rw [hW1, ← hs0]; exact RowAt.fresh W0 _ _
  have hRl : RowAt W1 w.heap.size #[.int .i64 no, .int .i64 pri, .slice A n c] 80 := by
    have h : RowAt W0 w.heap.size #[.int .i64 no, .int .i64 pri, .slice A n c] 80 := by rw [hW0]; exact RowAt.fresh w _ _
    exact h.below hB1 h.lt
  have hBB := hB0.trans (hB1.mono hB0.size)
  have hmf : ∀ (fn : Fn) (first cap : Array Value) (w : World), (Instr.makeFunc fn first cap).run Tryz.prog w = .ok (.func fn first cap) w := fun _ _ _ _ => rfl
  have HCl := Lib.hid (clone_cus A n c (X.map CV.c) W1 (hX.below hBB).1 hn)
  have HX1 := Lib.hid (hX.below hBB)
  have HRs := Lib.hid hRs
  have HBB := Lib.hid hBB
  have HNo := Lib.hid hno
  have HW := Lib.hid (show W1 = (w.alloc (.cells #[.int .i64 no, .int .i64 pri, .slice A n c] 80)).alloc (.cells #[.string s] 9) by rw [hW1, hW0])
  have d2 := hRl.cell (j := 2) (u := .slice A n c) rfl
  rw [hW1, hW0] at d2
  clear hW0 hW1 hB0 hB1 hs0 hRs hRl hBB hX hno
  go_enter Tryz.func34, Tryz.ntmps34
  go_wp2_with fail
  rw [← HW.out]
  clear d2
  refine HCl.out.mono ?_
  rintro e w2 ⟨v2, rfl, hown, hb2⟩
  obtain ⟨A2, c2, rfl⟩ := own_form hown
  have HD := Lib.hid (ndelw_any (w.heap.size + 1) s A2 n c2 X w2 ⟨⟨by rw [List.length_map]; exact HX1.out.len, Sl.of_own hown⟩, fun x hx => (HX1.out.2 x hx).below hb2⟩ (Nat.lt_of_lt_of_le HRs.out.lt hb2.size) ((HRs.out.below hb2 HRs.out.lt).cell (j := 0) (u := .string s) rfl) (by omega) HNo.out)
  have HO := Lib.hid hown
  have HB2 := Lib.hid hb2
  clear hown hb2
  go_wp2_with fail
  refine HD.out.mono ?_
  rintro e w3 ⟨rfl, hb3⟩
  have HO3 := Lib.hid (own_weak (ownq_below HO.out hb3) HBB.out.size)
  have HB3 := Lib.hid (HBB.out.trans ((HB2.out.trans (hb3.mono HB2.out.size)).mono HBB.out.size))
  clear hb3
  go_wp2_with fail
  go_ret
  exact ⟨_, rfl, HO3.out, HB3.out⟩
end Go.Proofs.YtbhkfemebionnaaGreatDoor

namespace Go.Proofs.YtbhkfemebionnaaGreatDoor
open Go.RowKit

theorem split_has : ∀ (s : BT), hasB 46 s = true → s = headB 46 s ++ 46 :: tailB 46 s
  | [], h => by cases h
  | x :: r, h => by
    by_cases hx : x = 46
    · subst hx
      simp [headB, tailB, hasB]
    · have hr : hasB 46 r = true := by
        unfold hasB at h ⊢
        rw [List.any_cons] at h
        simpa [hx] using h
      have e1 : headB 46 (x :: r) = x :: headB 46 r := by simp [headB, hx]
      have e2 : tailB 46 (x :: r) = tailB 46 r := by
        unfold tailB
        rw [h, hr]
        simp [hx]
      rw [e1, e2, List.cons_append, ← split_has r hr]

theorem num_more {s : BT} (h : numE s = 0) : (∃ c t, headB 46 s = c :: t ∧ (c ≠ 48 ∨ t = [])) ∧ (hasB 46 s = true → tailB 46 s ≠ [] ∧ (tailB 46 s).getLast? ≠ some 48) ∧ (hasB 46 s = false → headB 46 s = s ∧ tailB 46 s = []) := by
  have hR := numR_of h
  unfold numE numF at h
  by_cases h1 : dgB (headB 46 s) = false ∨ (hasB 46 s = true ∧ dgB (tailB 46 s) = false) ∨ (1 < (headB 46 s).length ∧ decide ((headB 46 s).head? = some 48) = true) ∨ (hasB 46 s = true ∧ decide ((tailB 46 s).getLast? = some 48) = true)
  · rw [if_pos h1] at h; exact absurd h (by decide)
  · refine ⟨?_, fun hp => ⟨fun e => ?_, fun e => ?_⟩, fun hp => head_none hp⟩
    · cases hh : headB 46 s with
      | nil => have := hR.h0; rw [hh] at this; simp at this
      | cons c t =>
        refine ⟨c, t, rfl, ?_⟩
        by_cases hc : c = 48
        · right
          rcases List.eq_nil_or_concat t with e | ⟨u, v, e⟩
          · exact e
          · exact absurd (Or.inr (Or.inr (Or.inl ⟨by rw [hh, e]; simp, by rw [hh, hc]; rfl⟩))) h1
        · exact Or.inl hc
    · exact h1 (Or.inr (Or.inl ⟨hp, by rw [e]; rfl⟩))
    · exact h1 (Or.inr (Or.inr (Or.inr ⟨hp, decide_eq_true e⟩)))
theorem pad_inj {a b : BT} (ha : a.length ≤ 3) (hb : b.length ≤ 3) (la : a = [] ∨ a.getLast? ≠ some 48) (lb : b = [] ∨ b.getLast? ≠ some 48) (h : pad0 a = pad0 b) : a = b := by
  match a, b, ha, hb with
  | [], [], _, _ => rfl
  | [], [x], _, _ => simp [pad0] at h; subst h; simp at lb
  | [], [x, y], _, _ => simp [pad0] at h; obtain ⟨rfl, rfl⟩ := h; simp at lb
  | [], [x, y, z], _, _ => simp [pad0] at h; obtain ⟨rfl, rfl, rfl⟩ := h; simp at lb
  | [x], [], _, _ => simp [pad0] at h; simp_all
  | [x], [u], _, _ => simp [pad0] at h; simp_all
  | [x], [u, v], _, _ => simp [pad0] at h; simp_all
  | [x], [u, v, t], _, _ => simp [pad0] at h; obtain ⟨rfl, rfl, rfl⟩ := h; simp at lb
  | [x, y], [], _, _ => simp [pad0] at h; simp_all
  | [x, y], [u], _, _ => simp [pad0] at h; simp_all
  | [x, y], [u, v], _, _ => simp [pad0] at h; simp_all
  | [x, y], [u, v, t], _, _ => simp [pad0] at h; simp_all
  | [x, y, z], [], _, _ => simp [pad0] at h; simp_all
  | [x, y, z], [u], _, _ => simp [pad0] at h; simp_all
  | [x, y, z], [u, v], _, _ => simp [pad0] at h; simp_all
  | [x, y, z], [u, v, t], _, _ => simp [pad0] at h; simp_all
  | _ :: _ :: _ :: _ :: _, _, h, _ => simp at h
  | _, _ :: _ :: _ :: _ :: _, _, h => simp at h
theorem numV_inj {a b : BT} (ha : numE a = 0) (hb : numE b = 0) (h : numV a = numV b) : a = b := by
  have ra := numR_of ha
  have rb := numR_of hb
  obtain ⟨ga, ta, na⟩ := num_more ha
  obtain ⟨gb, tb, nb⟩ := num_more hb
  unfold numV at h
  rw [dval_append, dval_append, pad3_len, pad3_len] at h
  have pa := dval_lt (pad3_dgs ra.t)
  have pb := dval_lt (pad3_dgs rb.t)
  rw [pad3_len] at pa pb
  have e1 : dval (headB 46 a) = dval (headB 46 b) := by omega
  have e2 : dval (pad0 (tailB 46 a)) = dval (pad0 (tailB 46 b)) := by omega
  have hh : headB 46 a = headB 46 b := by
    have x := dec_of ra.h ga
    have y := dec_of rb.h gb
    rw [← x, ← y, e1]
  have hp := dval_inj (pad3_len _) (pad3_len _) (pad3_dgs ra.t) (pad3_dgs rb.t) e2
  have la : tailB 46 a = [] ∨ (tailB 46 a).getLast? ≠ some 48 := by
    cases he : hasB 46 a
    · exact Or.inl (na he).2
    · exact Or.inr (ta he).2
  have lb : tailB 46 b = [] ∨ (tailB 46 b).getLast? ≠ some 48 := by
    cases he : hasB 46 b
    · exact Or.inl (nb he).2
    · exact Or.inr (tb he).2
  have ht := pad_inj ra.t3 rb.t3 la lb hp
  cases hea : hasB 46 a <;> cases heb : hasB 46 b
  · rw [← (na hea).1, ← (nb heb).1, hh]
  · exact absurd (ht ▸ (na hea).2) (tb heb).1
  · exact absurd (ht.symm ▸ (nb heb).2) (ta hea).1
  · rw [split_has a hea, split_has b heb, hh, ht]
end Go.Proofs.YtbhkfemebionnaaGreatDoor
