/- ProfileSlots: for every input the law returns true, and its arguments read behind the call as they read before. The package variables that the row lists hold what the program's text lays. -/
import Derived.Test.YtpinmgoeapakdaaGreatDoorGProF
import Derived.Test.YtpinmgoeapakdaaGreatDoorGLaw
import Derived.Test.YtpinmgoeapakdaaGreatDoorFProfileSlots
import Derived.Test.YtpinmgoeapakdaaGreatDoorCards
import Derived.Test.YtpinmgoeapakdaaGreatDoorTie
import Derived.SevenTiedAt
import Derived.SizedLaws
namespace Go.Proofs.YtpinmgoeapakdaaGreatDoor
open Go.RowKit

theorem slots_up {l : List Slt} (h : wheelE l = 0) {j : Nat} : ∀ {k : Nat} (hjk : j < k) (hk : k < l.length), (l[j]'(by omega)).z < l[k].a
  | 0, hjk, _ => absurd hjk (Nat.not_lt_zero _)
  | k + 1, hjk, hk => by
    obtain ⟨-, -, -, h4⟩ := wh_ok hk ((wheel_ok h).2 (k + 1) hk)
    rw [Nat.add_sub_cancel, getD_of (show k < l.length by omega)] at h4
    have h5 : (l[k]'(by omega)).z < l[k + 1].a := by omega
    rcases Nat.lt_or_eq_of_le (Nat.le_of_lt_succ hjk) with h6 | h6
    · have := slots_up h h6 (by omega)
      obtain ⟨-, -, ⟨-, -, h7⟩, -⟩ := wh_ok (show k < l.length by omega) ((wheel_ok h).2 k (by omega))
      omega
    · subst h6; exact h5
theorem names_no {l : List Slt} (h : wheelE l = 0) {j k : Nat} (hjk : j < k) (hk : k < l.length) : (l[j]'(by omega)).s ≠ l[k].s := by
  obtain ⟨-, h2, -, -⟩ := wh_ok hk ((wheel_ok h).2 k hk)
  intro e
  rw [any_take_hit (p := fun x => decide (x.s = l[k].s)) (show j < l.length by omega) hjk (by simpa using e)] at h2
  cases h2
theorem mid_at {l : List Slt} (h : wheelE l = 0) {k : Nat} (hk : k < l.length) : midI l l[k].s = k :=
  idxOf_some hk (fun _ hi => decide_eq_false (names_no h hi hk)) (decide_eq_true rfl)
theorem slot_at {l : List Slt} (h : wheelE l = 0) {k : Nat} (hk : k < l.length) {v : Int} (h1 : l[k].a ≤ v) (h2 : v ≤ l[k].z) : slotI l v = k :=
  idxOf_some hk (fun i hi => by
    have := slots_up h hi hk
    show (decide (l[i].a ≤ v) && decide (v ≤ l[i].z)) = false
    rw [decide_eq_false (p := v ≤ l[i].z) (by omega), Bool.and_false]) (by
    show (decide (l[k].a ≤ v) && decide (v ≤ l[k].z)) = true
    rw [decide_eq_true h1, decide_eq_true h2]; rfl)
theorem idx_hit {α : Type} {p : α → Bool} : ∀ {l : List α} {k : Nat}, idxOf p l = (k : Int) → ∃ h : k < l.length, p l[k] = true
  | [], k, h => by rw [show idxOf p ([] : List α) = -1 from rfl] at h; omega
  | a :: l, k, h => by
    rw [idxOf] at h
    by_cases hp : p a = true
    · rw [if_pos hp] at h
      obtain rfl : k = 0 := by omega
      exact ⟨by simp, hp⟩
    · rw [if_neg hp] at h
      by_cases h0 : idxOf p l < 0
      · rw [if_pos h0] at h; omega
      · rw [if_neg h0] at h
        obtain ⟨j, rfl⟩ : ∃ j, k = j + 1 := ⟨k - 1, by omega⟩
        obtain ⟨h1, h2⟩ := idx_hit (p := p) (l := l) (k := j) (by omega)
        exact ⟨by simpa using h1, h2⟩

theorem slot_off {l : List Slt} (h : wheelE l = 0) {k : Nat} (hk : k < l.length) {v : Int} (hv : v < l[k].a ∨ l[k].z < v) (hs : ¬ slotI l v < 0) : (l.getD (slotI l v).toNat slt0).s ≠ l[k].s := by
  obtain ⟨j, hj⟩ : ∃ j : Nat, slotI l v = j := ⟨(slotI l v).toNat, by omega⟩
  obtain ⟨hlt, hp⟩ := idx_hit hj
  rw [hj, show ((j : Nat) : Int).toNat = j by omega, getD_of hlt]
  have hp : (decide (l[j].a ≤ v) && decide (v ≤ l[j].z)) = true := hp
  rw [Bool.and_eq_true, decide_eq_true_eq, decide_eq_true_eq] at hp
  rcases Nat.lt_trichotomy j k with h1 | h1 | h1
  · exact names_no h h1 hk
  · subst h1; omega
  · exact fun e => names_no h h1 hlt e.symm

theorem slots_ans {F : Fea} (h : bareE F = 0) {k : Nat} (hk : k < F.wh.length) :
    midE F F.wh[k].s = 0 ∧ midV F F.wh[k].s = (F.wh[k].a + F.wh[k].z) / 2 ∧ (F.wh[k].a ≤ (F.wh[k].a + F.wh[k].z) / 2 ∧ (F.wh[k].a + F.wh[k].z) / 2 ≤ F.wh[k].z) ∧
    (∀ v, F.wh[k].a ≤ v → v ≤ F.wh[k].z → slotE F v = 0 ∧ slotV F v = F.wh[k].s) ∧
    (∀ v, v < F.wh[k].a ∨ F.wh[k].z < v → (slotE F v = 0 ∧ slotV F v ≠ F.wh[k].s) ∨ slotE F v = 6 ∨ slotE F v = 2) := by
  obtain ⟨-, -, -, -, -, hw⟩ := bare_ok h
  obtain ⟨-, -, ⟨l1, l2, l3⟩, -⟩ := wh_ok hk ((wheel_ok hw).2 k hk)
  have hm := mid_at hw hk
  have e1 : midE F F.wh[k].s = 0 := by unfold midE; rw [h, if_neg (by decide), hm, if_neg (by omega)]
  unfold isLev at l1 l2
  refine ⟨e1, ?_, by omega, fun v h1 h2 => ?_, fun v hv => ?_⟩
  · unfold midV; rw [e1, if_neg (by decide), hm, show ((k : Nat) : Int).toNat = k by omega, getD_of hk]
  · have hs := slot_at hw hk h1 h2
    have e2 : slotE F v = 0 := by unfold slotE; rw [h, if_neg (by decide), if_neg (fun hn => hn ⟨by omega, by omega⟩), hs, if_neg (by omega)]
    refine ⟨e2, ?_⟩
    unfold slotV; rw [e2, if_neg (by decide), hs, show ((k : Nat) : Int).toNat = k by omega, getD_of hk]
  · by_cases hl : isLev v
    · by_cases hs : slotI F.wh v < 0
      · right; left
        unfold slotE; rw [h, if_neg (by decide), if_neg (fun hn => hn hl), if_pos hs]
      · left
        have e2 : slotE F v = 0 := by unfold slotE; rw [h, if_neg (by decide), if_neg (fun hn => hn hl), if_neg hs]
        refine ⟨e2, ?_⟩
        unfold slotV; rw [e2, if_neg (by decide)]
        exact slot_off hw hk hv hs
    · right; right
      unfold slotE; rw [h, if_neg (by decide), if_pos hl]
theorem alone_bare {F : Fea} {L : List (List PT)} (h : aloneE F L = 0) : bareE F = 0 := by
  obtain ⟨_, hb, _, _, ho, hl0, hl1, hl2, hw⟩ := alone_ok h
  have e1 : bitsE F = 0 := by unfold bitsE bitsV; rw [if_neg (by omega)]
  have e2 : partsE F = 0 := by unfold partsE; rw [if_neg (by rintro (h | h | h | h); exact h ho; omega; omega; omega), hw]
  unfold bareE
  rw [e1, if_neg (by decide), e2]
set_option maxRecDepth 100000 in
set_option maxHeartbeats 8000000 in
theorem pslots_walk (w : World) (f : FC) (wl : List Slt) (hw : FW w f wl) (ht : Tab w) (hr : Rng w) :
    Calls Tryz.prog 5 #[f.val] w fun e w' => e = .returned (.bool true) ∧ Below w.heap.size w w' := by
  have HAw := Lib.hid (fun w ht hr => pawake_any w ht hr)
  have HS0 := Lib.hid (fun v w hw => pSlot_any f wl v w hw)
  have HM0 := Lib.hid (fun s w hw => pMiddle_any f wl s w hw)
  obtain ⟨at_, bits, co, fi, cu, ho, lo, hi, sn, A, n, c⟩ := f
  obtain rfl : n = wl.length := hw.1.1
  have HR0 := Lib.hid (fun w hw => lright_any ⟨0, bits, 0, 0, 0, ho, lo, hi, false, A, wl.length, c⟩ wl none 0 0 [] [] w hw ⟨Sh.In.nil _ _, rfl, fun i h => absurd h (Nat.not_lt_zero _)⟩ (fun h hh => by cases hh) (by decide))
  obtain ⟨B, hBB⟩ : ∃ B, B = rightF (FC.fea ⟨0, bits, 0, 0, 0, ho, lo, hi, false, A, wl.length, c⟩ wl) [] := ⟨_, rfl⟩
  rw [← hBB] at HR0
  have HBB := Lib.hid hBB
  clear hBB
  have HR := Lib.hid (show ∀ w', FW w' ⟨0, bits, 0, 0, 0, ho, lo, hi, false, A, wl.length, c⟩ wl → Calls Tryz.prog 21 #[.agg #[.int .i64 0, .int .i64 bits, .int .i64 0, .int .i64 0, .int .i64 0, .int .i64 ho, .int .i64 lo, .int .i64 hi, .bool false, .slice A wl.length c], .slice none 0 0] w' fun e w'' => e = .returned (.bool B) ∧ Below w'.heap.size w' w'' from HR0.out)
  have HS := Lib.hid (show ∀ v w', FW w' ⟨at_, bits, co, fi, cu, ho, lo, hi, sn, A, wl.length, c⟩ wl → Calls Tryz.prog 17 #[.agg #[.int .i64 at_, .int .i64 bits, .int .i64 co, .int .i64 fi, .int .i64 cu, .int .i64 ho, .int .i64 lo, .int .i64 hi, .bool sn, .slice A wl.length c], .int .i64 v] w' fun e w'' => e = .returned (.tuple #[.string (slotV (FC.fea ⟨at_, bits, co, fi, cu, ho, lo, hi, sn, A, wl.length, c⟩ wl) v), .int .i64 (slotE (FC.fea ⟨at_, bits, co, fi, cu, ho, lo, hi, sn, A, wl.length, c⟩ wl) v)]) ∧ Below w'.heap.size w' w'' from HS0.out)
  have HM := Lib.hid (show ∀ s w', FW w' ⟨at_, bits, co, fi, cu, ho, lo, hi, sn, A, wl.length, c⟩ wl → Calls Tryz.prog 19 #[.agg #[.int .i64 at_, .int .i64 bits, .int .i64 co, .int .i64 fi, .int .i64 cu, .int .i64 ho, .int .i64 lo, .int .i64 hi, .bool sn, .slice A wl.length c], .string s] w' fun e w'' => e = .returned (.tuple #[.int .i64 (midV (FC.fea ⟨at_, bits, co, fi, cu, ho, lo, hi, sn, A, wl.length, c⟩ wl) s), .int .i64 (midE (FC.fea ⟨at_, bits, co, fi, cu, ho, lo, hi, sn, A, wl.length, c⟩ wl) s)]) ∧ Below w'.heap.size w' w'' from HM0.out)
  show Calls Tryz.prog 5 #[.agg #[.int .i64 at_, .int .i64 bits, .int .i64 co, .int .i64 fi, .int .i64 cu, .int .i64 ho, .int .i64 lo, .int .i64 hi, .bool sn, .slice A wl.length c]] w fun e w' => e = .returned (.bool true) ∧ Below w.heap.size w w'
  obtain ⟨W, hW⟩ : ∃ W, W = w.alloc (.cells #[.int .i64 at_, .int .i64 bits, .int .i64 co, .int .i64 fi, .int .i64 cu, .int .i64 ho, .int .i64 lo, .int .i64 hi, .bool sn, .slice A wl.length c] 24) := ⟨_, rfl⟩
  obtain ⟨hB0, hK⟩ := fbox at_ bits co fi cu ho lo hi sn A wl.length c w W hW
  have HK := Lib.hid hK
  have HW := Lib.hid hW
  have HB0 := Lib.hid hB0
  have hB := Below.refl W.heap.size W
  obtain ⟨c0, c1, c2, c3, c4, c5, c6, c7, c8, c9⟩ := hK W hB
  clear hW hB0 hK
  have HL := Lib.hid (show FW W ⟨at_, bits, co, fi, cu, ho, lo, hi, sn, A, wl.length, c⟩ wl from hw.below HB0.out)
  have HL2 := Lib.hid (show FW W ⟨0, bits, 0, 0, 0, ho, lo, hi, false, A, wl.length, c⟩ wl from ⟨HL.out.1, HL.out.2⟩)
  have HT := Lib.hid (ht.below HB0.out)
  have HRg := Lib.hid (hr.below HB0.out)
  clear hw ht hr HR0 HS0 HM0
  cases B with
  | false =>
    go_enter Tryz.func5, Tryz.ntmps5
    go_wp2_with fail
    rw [← HW.out]
    refine (HR.out _ (HL2.out.below hB)).mono ?_
    rintro e wk ⟨rfl, hb⟩
    replace hB := hB.trans (hb.mono hB.size)
    clear hb
    obtain ⟨c0, c1, c2, c3, c4, c5, c6, c7, c8, c9⟩ := HK.out _ hB
    go_wp2_with fail
    refine (HAw.out _ (HT.out.below hB) (HRg.out.below hB)).mono ?_
    rintro e wk ⟨rfl, hb⟩
    replace hB := hB.trans (hb.mono hB.size)
    clear hb
    obtain ⟨c0, c1, c2, c3, c4, c5, c6, c7, c8, c9⟩ := HK.out _ hB
    go_wp2_with fail
    go_ret
    exact ⟨rfl, HB0.out.trans (hB.mono HB0.out.size)⟩
  | true =>
    have hal : aloneE (FC.fea ⟨0, bits, 0, 0, 0, ho, lo, hi, false, A, wl.length, c⟩ wl) [] = 0 := by
      have h := HBB.out.symm
      unfold rightF at h
      rw [Bool.and_eq_true, decide_eq_true_eq] at h
      exact h.2
    have hba : bareE (FC.fea ⟨at_, bits, co, fi, cu, ho, lo, hi, sn, A, wl.length, c⟩ wl) = 0 := by
      have h : bareE (FC.fea ⟨0, bits, 0, 0, 0, ho, lo, hi, false, A, wl.length, c⟩ wl) = 0 := alone_bare hal
      exact h
    have HAns := Lib.hid (fun (k : Nat) (hk : k < wl.length) => slots_ans hba (k := k) hk)
    obtain ⟨-, -, -, -, -, hwl⟩ := bare_ok hba
    have h16 : wl.length ≤ 16 := (wheel_ok (l := wl) hwl).1
    have HLv := Lib.hid (show ∀ x ∈ wl, isLev x.a ∧ isLev x.z from bare_lev hba)
    clear HBB hal hba hwl
    generalize slotV (FC.fea ⟨at_, bits, co, fi, cu, ho, lo, hi, sn, A, wl.length, c⟩ wl) = sv at *
    generalize slotE (FC.fea ⟨at_, bits, co, fi, cu, ho, lo, hi, sn, A, wl.length, c⟩ wl) = se at *
    generalize midV (FC.fea ⟨at_, bits, co, fi, cu, ho, lo, hi, sn, A, wl.length, c⟩ wl) = mv at *
    generalize midE (FC.fea ⟨at_, bits, co, fi, cu, ho, lo, hi, sn, A, wl.length, c⟩ wl) = me at *
    go_enter Tryz.func5, Tryz.ntmps5
    go_wp2_with fail
    rw [← HW.out]
    refine (HR.out _ (HL2.out.below hB)).mono ?_
    rintro e wk ⟨rfl, hb⟩
    replace hB := hB.trans (hb.mono hB.size)
    clear hb
    obtain ⟨c0, c1, c2, c3, c4, c5, c6, c7, c8, c9⟩ := HK.out _ hB
    have HBs := Lib.hid hB
    clear hB
    go_wp2_with fail
    go_loopw [32] (fun iv wr => ∃ k : Nat, k ≤ wl.length ∧ iv = .int .i64 k ∧ Below W.heap.size W wr) (fun iv _ => wl.length - (intOf iv).toNat)
    case atStart => exact ⟨0, Nat.zero_le _, rfl, HBs.out⟩
    case round =>
      obtain ⟨k, hk, rfl, hB⟩ := hrel
      obtain ⟨c0, c1, c2, c3, c4, c5, c6, c7, c8, c9⟩ := HK.out _ hB
      by_cases hlt : k < wl.length
      · obtain ⟨b, o, rfl, hbl, hcell⟩ := sl_at HL.out.1 (by show 0 < wl.length; omega)
        obtain ⟨p0, p1, p2⟩ := hcell k hlt
        have p0 := (hB.cell (p := ⟨b, o + k * 3, none⟩) hbl).trans p0
        have p1 := (hB.cell (p := ⟨b, o + k * 3 + 1, none⟩) hbl).trans p1
        have p2 := (hB.cell (p := ⟨b, o + k * 3 + 2, none⟩) hbl).trans p2
        have hbw : b < wr.heap.size := Nat.lt_of_lt_of_le hbl hB.size
        have hww : w.heap.size < wr.heap.size := Nat.lt_of_lt_of_le (show w.heap.size < W.heap.size by rw [HW.out]; simp) hB.size
        obtain ⟨m1, m2, m3, m4, m5⟩ := HAns.out k hlt
        obtain ⟨v1, v2⟩ := HLv.out _ (List.getElem_mem hlt)
        have hX : (0 ≤ wl[k].a ∧ wl[k].a ≤ 65535) ∧ 0 ≤ wl[k].z ∧ wl[k].z ≤ 65535 := ⟨v1, v2⟩
        have hme : me wl[k].s = 0 := m1
        have hmv : mv wl[k].s = (wl[k].a + wl[k].z) / 2 := m2
        have hmm : wl[k].a ≤ (wl[k].a + wl[k].z) / 2 ∧ (wl[k].a + wl[k].z) / 2 ≤ wl[k].z := m3
        have HIn := Lib.hid (show ∀ v, wl[k].a ≤ v → v ≤ wl[k].z → se v = 0 ∧ sv v = wl[k].s from m4)
        have HOut := Lib.hid (show ∀ v, v < wl[k].a ∨ wl[k].z < v → (se v = 0 ∧ sv v ≠ wl[k].s) ∨ se v = 6 ∨ se v = 2 from m5)
        have HMk := Lib.hid (HM.out wl[k].s)
        rw [hme, hmv] at HMk
        have i0 : (0 : Int) ≤ (k : Int) := by omega
        have i1 : (k : Int) < (wl.length : Int) := by omega
        clear hcell m1 m2 m3 m4 m5 v1 v2 hme hmv
        generalize wl[k].s = S at *
        generalize wl[k].a = X at *
        generalize wl[k].z = Z at *
        generalize (X + Z) / 2 = M at *
        obtain ⟨W4, hW4⟩ : ∃ W4, W4 = wr.alloc (.cells #[.string S, .int .i64 X, .int .i64 Z] 49) := ⟨_, rfl⟩
        have hb4 : Below wr.heap.size wr W4 := by rw [hW4]; exact (Below.refl _ _).alloc (Nat.le_refl _) _
        have hlt4 : wr.heap.size < W4.heap.size := by rw [hW4]; simp
        have HKx := Lib.hid (fun w' (h : Below W4.heap.size W4 w') => show w'.cell? ⟨wr.heap.size, 0, none⟩ = some (.string S) ∧ w'.cell? ⟨wr.heap.size, 1, none⟩ = some (.int .i64 X) ∧ w'.cell? ⟨wr.heap.size, 2, none⟩ = some (.int .i64 Z) from
          ⟨(h.cell (p := ⟨wr.heap.size, 0, none⟩) hlt4).trans (by rw [hW4, World.cell?_alloc_new]; rfl), (h.cell (p := ⟨wr.heap.size, 1, none⟩) hlt4).trans (by rw [hW4, World.cell?_alloc_new]; rfl), (h.cell (p := ⟨wr.heap.size, 2, none⟩) hlt4).trans (by rw [hW4, World.cell?_alloc_new]; rfl)⟩)
        have HW4 := Lib.hid hW4
        have HB4 := Lib.hid (hB.trans (hb4.mono hB.size))
        have HHM := Lib.hid (And.intro hX hmm)
        obtain ⟨wo, rfl⟩ : ∃ wo : World, wo = wr := ⟨_, rfl⟩
        clear hW4 hb4 hX hmm
        have hB4 := Below.refl W4.heap.size W4
        have hB := HB4.out
        obtain ⟨c0, c1, c2, c3, c4, c5, c6, c7, c8, c9⟩ := HK.out _ hB
        obtain ⟨x0, x1, x2⟩ := HKx.out _ hB4
        go_wp2_with fail
        rw [← HW4.out]
        refine (HMk.out _ (HL.out.below hB)).mono ?_
        rintro e wk ⟨rfl, hb⟩
        replace hB := hB.trans (hb.mono hB.size)
        replace hB4 := hB4.trans (hb.mono hB4.size)
        clear hb
        obtain ⟨x0, x1, x2⟩ := HKx.out _ hB4
        have d1 : decide (M < X) = false := decide_eq_false (by have := HHM.out; omega)
        have d2 : decide (Z < M) = false := decide_eq_false (by have := HHM.out; omega)

        obtain ⟨W5, hW5⟩ : ∃ W5, W5 = wk.alloc (.cells #[.int .i64 X, .int .i64 M, .int .i64 Z] 3) := ⟨_, rfl⟩
        have hb5 : Below wk.heap.size wk W5 := by rw [hW5]; exact (Below.refl _ _).alloc (Nat.le_refl _) _
        have hlt5 : wk.heap.size < W5.heap.size := by rw [hW5]; simp
        have HKy := Lib.hid (fun w' (h : Below W5.heap.size W5 w') => show w'.cell? ⟨wk.heap.size, 0, none⟩ = some (.int .i64 X) ∧ w'.cell? ⟨wk.heap.size, 1, none⟩ = some (.int .i64 M) ∧ w'.cell? ⟨wk.heap.size, 2, none⟩ = some (.int .i64 Z) from
          ⟨(h.cell (p := ⟨wk.heap.size, 0, none⟩) hlt5).trans (by rw [hW5, World.cell?_alloc_new]; rfl), (h.cell (p := ⟨wk.heap.size, 1, none⟩) hlt5).trans (by rw [hW5, World.cell?_alloc_new]; rfl), (h.cell (p := ⟨wk.heap.size, 2, none⟩) hlt5).trans (by rw [hW5, World.cell?_alloc_new]; rfl)⟩)
        have HW5 := Lib.hid hW5
        have HB5 := Lib.hid (hB.trans (hb5.mono hB.size))
        have HB45 := Lib.hid (hB4.trans (hb5.mono hB4.size))
        clear hW5 hb5 hB hB4
        go_wp2_with fail
        rw [← HW5.out]
        have HX := Lib.hid (HS.out X)
        have HMm := Lib.hid (HS.out M)
        have HZ := Lib.hid (HS.out Z)
        rw [(HIn.out X (Int.le_refl _) (by have := HHM.out; omega)).1, (HIn.out X (Int.le_refl _) (by have := HHM.out; omega)).2] at HX
        rw [(HIn.out M HHM.out.2.1 HHM.out.2.2).1, (HIn.out M HHM.out.2.1 HHM.out.2.2).2] at HMm
        rw [(HIn.out Z (by have := HHM.out; omega) (Int.le_refl _)).1, (HIn.out Z (by have := HHM.out; omega) (Int.le_refl _)).2] at HZ
        go_loopw [64] (fun iv wr => ∃ j : Nat, j ≤ 3 ∧ iv = .int .i64 j ∧ Below W5.heap.size W5 wr) (fun iv _ => 3 - (intOf iv).toNat)
        case atStart => exact ⟨0, by decide, rfl, Below.refl _ _⟩
        case round =>
          obtain ⟨j, hj, rfl, hB5⟩ := hrel
          have hB := HB5.out.trans (hB5.mono HB5.out.size)
          obtain ⟨c0, c1, c2, c3, c4, c5, c6, c7, c8, c9⟩ := HK.out _ hB
          obtain ⟨x0, x1, x2⟩ := HKx.out _ (HB45.out.trans (hB5.mono HB45.out.size))
          obtain ⟨y0, y1, y2⟩ := HKy.out _ hB5
          match j, hj with
          | 0, _ =>
            go_wp2_with fail
            refine (HX.out _ (HL.out.below hB)).mono ?_
            rintro e wk ⟨rfl, hb⟩
            obtain ⟨x0, x1, x2⟩ := HKx.out _ ((HB45.out.trans (hB5.mono HB45.out.size)).trans (hb.mono (HB45.out.trans (hB5.mono HB45.out.size)).size))
            replace hB5 := hB5.trans (hb.mono hB5.size)
            clear hb
            go_wp2_with fail
            go_roundw
            case rel => exact ⟨0 + 1, by omega, by go_num, hB5⟩
            case measure => simp [intOf]
          | 1, _ =>
            go_wp2_with fail
            refine (HMm.out _ (HL.out.below hB)).mono ?_
            rintro e wk ⟨rfl, hb⟩
            obtain ⟨x0, x1, x2⟩ := HKx.out _ ((HB45.out.trans (hB5.mono HB45.out.size)).trans (hb.mono (HB45.out.trans (hB5.mono HB45.out.size)).size))
            replace hB5 := hB5.trans (hb.mono hB5.size)
            clear hb
            go_wp2_with fail
            go_roundw
            case rel => exact ⟨1 + 1, by omega, by go_num, hB5⟩
            case measure => simp [intOf]
          | 2, _ =>
            go_wp2_with fail
            refine (HZ.out _ (HL.out.below hB)).mono ?_
            rintro e wk ⟨rfl, hb⟩
            obtain ⟨x0, x1, x2⟩ := HKx.out _ ((HB45.out.trans (hB5.mono HB45.out.size)).trans (hb.mono (HB45.out.trans (hB5.mono HB45.out.size)).size))
            replace hB5 := hB5.trans (hb.mono hB5.size)
            clear hb
            go_wp2_with fail
            go_roundw
            case rel => exact ⟨2 + 1, by omega, by go_num, hB5⟩
            case measure => simp [intOf]
          | 3, _ =>
            rw [show ((3 : Nat) : Int) = 3 from rfl]
            have hB4 := HB45.out.trans (hB5.mono HB45.out.size)
            have w1 : IntKind.i64.wrap (X - 1) = X - 1 := IntWalk.i64_in _ (by have := HHM.out; omega)
            have w2 : IntKind.i64.wrap (Z + 1) = Z + 1 := IntWalk.i64_in _ (by have := HHM.out; omega)
            obtain ⟨wo, rfl⟩ : ∃ wo : World, wo = wr := ⟨_, rfl⟩
            obtain ⟨W6, hW6⟩ : ∃ W6, W6 = wo.alloc (.cells #[.int .i64 (X - 1), .int .i64 (Z + 1)] 3) := ⟨_, rfl⟩
            have hb6 : Below wo.heap.size wo W6 := by rw [hW6]; exact (Below.refl _ _).alloc (Nat.le_refl _) _
            have hlt6 : wo.heap.size < W6.heap.size := by rw [hW6]; simp
            have HKz := Lib.hid (fun w' (h : Below W6.heap.size W6 w') => show w'.cell? ⟨wo.heap.size, 0, none⟩ = some (.int .i64 (X - 1)) ∧ w'.cell? ⟨wo.heap.size, 1, none⟩ = some (.int .i64 (Z + 1)) from
              ⟨(h.cell (p := ⟨wo.heap.size, 0, none⟩) hlt6).trans (by rw [hW6, World.cell?_alloc_new]; rfl), (h.cell (p := ⟨wo.heap.size, 1, none⟩) hlt6).trans (by rw [hW6, World.cell?_alloc_new]; rfl)⟩)
            have HW6 := Lib.hid hW6
            have HB6 := Lib.hid (hB.trans (hb6.mono hB.size))
            have HB46 := Lib.hid (hB4.trans (hb6.mono hB4.size))
            have HLo := Lib.hid (HS.out (X - 1))
            have HHi := Lib.hid (HS.out (Z + 1))
            have HcL := Lib.hid (HOut.out (X - 1) (by omega))
            have HcH := Lib.hid (HOut.out (Z + 1) (by omega))
            generalize sv (X - 1) = V1 at *
            generalize se (X - 1) = E1 at *
            generalize sv (Z + 1) = V2 at *
            generalize se (Z + 1) = E2 at *
            clear hW6 hb6 hB hB4 hB5 y0 y1 y2
            go_wp2_with fail
            rw [← HW6.out]
            go_loopw [91] (fun iv wr => ∃ j : Nat, j ≤ 2 ∧ iv = .int .i64 j ∧ Below W6.heap.size W6 wr) (fun iv _ => 2 - (intOf iv).toNat)
            case atStart => exact ⟨0, by decide, rfl, Below.refl _ _⟩
            case round =>
              obtain ⟨j, hj, rfl, hB6⟩ := hrel
              have hB := HB6.out.trans (hB6.mono HB6.out.size)
              obtain ⟨c0, c1, c2, c3, c4, c5, c6, c7, c8, c9⟩ := HK.out _ hB
              obtain ⟨x0, x1, x2⟩ := HKx.out _ (HB46.out.trans (hB6.mono HB46.out.size))
              obtain ⟨y0, y1⟩ := HKz.out _ hB6
              match j, hj with
              | 0, _ =>
                rcases HcL.out with ⟨e0, hne⟩ | e0 | e0
                · subst e0
                  have hb1 : (V1.toList == S.toList) = false := by rw [bytes_bq]; exact decide_eq_false hne
                  have hb2 : (V1.toList != S.toList) = true := by rw [bne, hb1]; rfl
                  clear hne
                  go_wp2_with fail
                  refine (HLo.out _ (HL.out.below hB)).mono ?_
                  rintro e wk ⟨rfl, hb⟩
                  obtain ⟨x0, x1, x2⟩ := HKx.out _ ((HB46.out.trans (hB6.mono HB46.out.size)).trans (hb.mono (HB46.out.trans (hB6.mono HB46.out.size)).size))
                  replace hB6 := hB6.trans (hb.mono hB6.size)
                  clear hb
                  go_wp2_with fail
                  go_roundw
                  case rel => exact ⟨0 + 1, by omega, by go_num, hB6⟩
                  case measure => simp [intOf]
                · subst e0
                  go_wp2_with fail
                  refine (HLo.out _ (HL.out.below hB)).mono ?_
                  rintro e wk ⟨rfl, hb⟩
                  obtain ⟨x0, x1, x2⟩ := HKx.out _ ((HB46.out.trans (hB6.mono HB46.out.size)).trans (hb.mono (HB46.out.trans (hB6.mono HB46.out.size)).size))
                  replace hB6 := hB6.trans (hb.mono hB6.size)
                  clear hb
                  go_wp2_with fail
                  go_roundw
                  case rel => exact ⟨0 + 1, by omega, by go_num, hB6⟩
                  case measure => simp [intOf]
                · subst e0
                  go_wp2_with fail
                  refine (HLo.out _ (HL.out.below hB)).mono ?_
                  rintro e wk ⟨rfl, hb⟩
                  obtain ⟨x0, x1, x2⟩ := HKx.out _ ((HB46.out.trans (hB6.mono HB46.out.size)).trans (hb.mono (HB46.out.trans (hB6.mono HB46.out.size)).size))
                  replace hB6 := hB6.trans (hb.mono hB6.size)
                  clear hb
                  go_wp2_with fail
                  go_roundw
                  case rel => exact ⟨0 + 1, by omega, by go_num, hB6⟩
                  case measure => simp [intOf]
              | 1, _ =>
                rcases HcH.out with ⟨e0, hne⟩ | e0 | e0
                · subst e0
                  have hb1 : (V2.toList == S.toList) = false := by rw [bytes_bq]; exact decide_eq_false hne
                  have hb2 : (V2.toList != S.toList) = true := by rw [bne, hb1]; rfl
                  clear hne
                  go_wp2_with fail
                  refine (HHi.out _ (HL.out.below hB)).mono ?_
                  rintro e wk ⟨rfl, hb⟩
                  obtain ⟨x0, x1, x2⟩ := HKx.out _ ((HB46.out.trans (hB6.mono HB46.out.size)).trans (hb.mono (HB46.out.trans (hB6.mono HB46.out.size)).size))
                  replace hB6 := hB6.trans (hb.mono hB6.size)
                  clear hb
                  go_wp2_with fail
                  go_roundw
                  case rel => exact ⟨1 + 1, by omega, by go_num, hB6⟩
                  case measure => simp [intOf]
                · subst e0
                  go_wp2_with fail
                  refine (HHi.out _ (HL.out.below hB)).mono ?_
                  rintro e wk ⟨rfl, hb⟩
                  obtain ⟨x0, x1, x2⟩ := HKx.out _ ((HB46.out.trans (hB6.mono HB46.out.size)).trans (hb.mono (HB46.out.trans (hB6.mono HB46.out.size)).size))
                  replace hB6 := hB6.trans (hb.mono hB6.size)
                  clear hb
                  go_wp2_with fail
                  go_roundw
                  case rel => exact ⟨1 + 1, by omega, by go_num, hB6⟩
                  case measure => simp [intOf]
                · subst e0
                  go_wp2_with fail
                  refine (HHi.out _ (HL.out.below hB)).mono ?_
                  rintro e wk ⟨rfl, hb⟩
                  obtain ⟨x0, x1, x2⟩ := HKx.out _ ((HB46.out.trans (hB6.mono HB46.out.size)).trans (hb.mono (HB46.out.trans (hB6.mono HB46.out.size)).size))
                  replace hB6 := hB6.trans (hb.mono hB6.size)
                  clear hb
                  go_wp2_with fail
                  go_roundw
                  case rel => exact ⟨1 + 1, by omega, by go_num, hB6⟩
                  case measure => simp [intOf]
              | 2, _ =>
                go_wp2_with fail
                go_roundw
                case rel => exact ⟨k + 1, by omega, by go_num, hB⟩
                case measure => simp [intOf]; omega
      · obtain rfl : k = wl.length := by omega
        go_wp2_with fail
        refine (HAw.out _ (HT.out.below hB) (HRg.out.below hB)).mono ?_
        rintro e wk ⟨rfl, hb⟩
        replace hB := hB.trans (hb.mono hB.size)
        clear hb
        obtain ⟨c0, c1, c2, c3, c4, c5, c6, c7, c8, c9⟩ := HK.out _ hB
        go_wp2_with fail
        go_ret
        exact ⟨rfl, HB0.out.trans (hB.mono HB0.out.size)⟩
theorem profile_slots (w : World) (g : FC) (hg : g.good w) (hL : Laid w) :
    Calls Tryz.prog 5 #[.agg (shF.cs g).toArray] w fun e w' => e = .returned (.bool true) ∧ Below w.heap.size w w' := by
  obtain ⟨⟨wl, hw⟩, _⟩ := hg
  exact pslots_walk w g wl hw hL.1 hL.2
end Go.Proofs.YtpinmgoeapakdaaGreatDoor

namespace Go.Proofs.YtpinmgoeapakdaaGreatDoor.profileSlotsP
open Go.ChangeShapes Go.ChangeMaps Go.WideShapes Go.ChangeAt Go.RowKit

set_option maxRecDepth 100000 in
theorem lifted (os : Os) (started : os.Started) (H : Type) (enc : TypeId × Value → H) :
    ReturnsInHanded {} Tryz.checked os 5 .any (fun w args => (Rows.profileSlotsSpec.pre enc Tryz.prog Tryz.f5 [] false w args ∧ laidMetH Tryz.prog Rows.profileSlotsRow.laid w) ∧ sizedMet enc Tryz.prog Tryz.f5 (OpenSpec.ofChange Rows.profileSlotsSpec) false w args)
      (Rows.profileSlotsSpec.post enc Tryz.prog Tryz.f5 false true false false) := by
  refine returnsInHanded_of_change_and (C := Tryz.checked) (X := fun w _ => laidMetH Tryz.prog Rows.profileSlotsRow.laid w) (fun _ _ _ hh h => h.of_heap hh) own_ started (by kernel_rfl) Tryz.func5
    (ChangeSpec.witness_at (enc := enc) (C := Tryz.checked) (os := os) (X := fun w _ => laidMetH Tryz.prog Rows.profileSlotsRow.laid w) false (laidWorld os) #[.agg #[.int .i64 0, .int .i64 0, .int .i64 0, .int .i64 0, .int .i64 0, .int .i64 0, .int .i64 0, .int .i64 0, .bool false, .slice none 0 0]] 8 rfl (by kernel_rfl) (by kernel_rfl) (by kernel_rfl) (by kernel_rfl) (by kernel_rfl) (laid_met os _)) ?_
  intro W base args ds gs before hval0 hW _ hWt hL _
  have hval : ∀ (j : Nat) t v, Tryz.f5.params[j]? = some t → args[j]? = some v → Value.okWide Tryz.prog W .any base t v := hval0
  have hW' := hW
  obtain ⟨p, q, hA0, hV, rfl, hfz, hnd⟩ := hW
  have hA : DataW.TrodAll enc Tryz.prog W 0 (fun _ => true) true Tryz.f5.params.toList args.toList ds p := hA0
  rw [Tryz.params5] at hA hval hWt
  obtain ⟨v0, vs0, d0, ds0, p0, q0, hargs, rfl, rfl, h0, r0⟩ := trodAll_cons hA
  obtain ⟨rfl, rfl, rfl⟩ := trodAll_nil r0
  obtain rfl : args = #[v0] := by cases args; simp_all
  obtain ⟨rfl, rfl⟩ := trodVars_none hV
  have lt0 : ∀ x ∈ p0, x.block < W.heap.size := by obtain ⟨m, hm⟩ := h0; exact DataW.trod_lt m _ _ _ hm
  obtain ⟨cs0, fuel0, y0, rfl, hf0⟩ := agg_open Tryz.underlying24 (hval 0 24 v0 rfl rfl) h0
  obtain ⟨g0, rfl, hg0⟩ := feature_cells hf0
  clear hA0 hval0 hWt
  simp only [List.append_nil] at hW'
  refine (profile_slots W g0 hg0 (laid_of hL)).mono fun e W' ⟨he, bel⟩ => ?_
  subst he
  exact ⟨_, rfl, _, _, _, [], _, [], hW', trodAll_mk1 (shut_bool Tryz.underlying4 _), (trodAll_cons_mk (Below.trod laidOut (by kernel_rfl) (of_decide_eq_true (by kernel_rfl)) h0 bel lt0) trodAll_mk0), rfl, bel.frame _, fun h => by cases h⟩

theorem over : Rows.profileSlotsRow.holds Tryz.pinned (OpenSpec.ofChange Rows.profileSlotsSpec) :=
  OpenClaim.holds_of_wide 5 Tryz.f5 rfl rfl rfl rfl rfl rfl rfl ⟨rfl, rfl, rfl, rfl, rfl⟩ rfl rfl rfl rfl rfl (by kernel_rfl) Tryz.func5 profileSlots_facts
    (of_decide_eq_true (by kernel_rfl)) (by unfold Func.isWrapper; rw [if_neg (of_decide_eq_false (by kernel_rfl))]; exact ⟨rfl, rfl⟩)
    (fun os started H enc _ => lifted os started H enc)

theorem noStandIn : ∀ t ∈ Tryz.f5.params.toList, Tryz.prog.wantsStandIn t = false := by
  rw [Tryz.params5]
  intro t ht
  simp only [List.mem_cons, List.not_mem_nil, or_false] at ht
  subst ht
  kernel_rfl

theorem proved : Rows.ProfileSlotsCardSaid :=
  Claim7.holds_tied_plain_at .later [] [.data, .data, .data, .data, .sentinel, .sentinel, .pinned] true (true, "c3d8ae1918c4f8ff505efee564eec2d4328f310576adbccc116a5ab88642d2ca") true
    over (fun _ h => by cases h) (by kernel_rfl) (fun _ h => by cases h) profileSlots_row_tie rfl ⟨rfl, rfl⟩ (by kernel_rfl) rfl
    (fun f fn hf hfn => by
      obtain rfl : f = 5 := Option.some.inj ((show Tryz.prog.funcNamed "luminaire/luminairelaw10.ProfileSlots" = some 5 by kernel_rfl).symm.trans hf) |>.symm
      obtain rfl : fn = Tryz.f5 := (Option.some.inj (Tryz.func5.symm.trans hfn)).symm
      exact ⟨by kernel_rfl, fun j t ht => noStandIn t (Array.mem_toList_iff.2 (Array.mem_of_getElem? ht))⟩)
    (by kernel_rfl)
#print axioms proved
end Go.Proofs.YtpinmgoeapakdaaGreatDoor.profileSlotsP
