/- TopDivisionsAreRatios: for every input the law returns true, and its arguments read behind the call as they read before. The package variables that the row lists hold what the program's text lays. -/
import Derived.Test.YtjbhfkcjmjhhdaaGreatDoorGQuo
import Derived.Test.YtjbhfkcjmjhhdaaGreatDoorGLaw
import Derived.Test.YtjbhfkcjmjhhdaaGreatDoorCards
import Derived.Test.YtjbhfkcjmjhhdaaGreatDoorTie
import Derived.SevenTiedAt
namespace Go.Proofs.YtjbhfkcjmjhhdaaGreatDoor
open Go.RowKit

theorem itoa_of2 {z : Int} {l : BT} (h : Lib.itoa z = l) : (⟨l.toArray⟩ : ByteArray) = sI z := sI_of h.symm
theorem t7 : (⟨#[55]⟩ : ByteArray) = sI 7 := itoa_of2 (by rw [itoa_pos' (by decide), dec_small (by decide)]; rfl)
theorem t2 : (⟨#[50]⟩ : ByteArray) = sI 2 := itoa_of2 (by rw [itoa_pos' (by decide), dec_small (by decide)]; rfl)
theorem t14 : (⟨#[49, 52]⟩ : ByteArray) = sI 14 := itoa_of2 (by rw [itoa_pos' (by decide), dec_big (by decide), dec_small (by decide)]; rfl)
theorem t100 : (⟨#[49, 48, 48]⟩ : ByteArray) = sI 100 := itoa_of2 (by rw [itoa_pos' (by decide), dec_big (by decide), dec_big (by decide), dec_small (by decide)]; rfl)
theorem sv_100_7 : (⟨#[49, 48, 48, 47, 55]⟩ : ByteArray) = sR (Rat.divInt 100 7) := sR_of (by
  have h1 : (Rat.divInt 100 7).num = 100 := by decide +kernel
  have h2 : (Rat.divInt 100 7).den = 7 := by decide +kernel
  unfold rT
  rw [h1, h2, if_neg (by decide), itoa_pos' (by decide), dec_big (by decide), dec_big (by decide), dec_small (by decide), dec_small (by decide)]
  rfl)
theorem fit_s {z : Int} {k : Nat} (h : z.natAbs < 10 ^ k) (hk : k ≤ 4096) : Fit z := fit_lt h hk

theorem floor_quo {x y : Int} (hy : y ≠ 0) : (Rat.divInt x y).floor = x.fdiv y ∧ (Rat.divInt x y - (x.fdiv y : Rat)) * (y : Rat) = (x.fmod y : Rat) := by
  have hd : (y : Rat) ≠ 0 := fun h => hy (by
    have : (y : Rat) = ((0 : Int) : Rat) := h
    exact Rat.intCast_inj.1 this)
  have hv : Rat.divInt x y * (y : Rat) = (x : Rat) := by
    rw [Rat.divInt_eq_div, Rat.div_def, Rat.mul_assoc, Rat.inv_mul_cancel _ hd, Rat.mul_one]
  obtain ⟨h1, h2, h3⟩ := fd_spec x hy
  have hx : (x : Rat) = (y : Rat) * ((x.fdiv y : Int) : Rat) + ((x.fmod y : Int) : Rat) := by
    rw [← Rat.intCast_mul, ← Rat.intCast_add, ← h1]
  generalize Rat.divInt x y = V at *
  generalize x.fdiv y = q at *
  generalize x.fmod y = m at *
  refine ⟨?_, by grind⟩
  have hm : (V - (q : Rat)) * (y : Rat) = (m : Rat) := by grind
  rcases Int.lt_trichotomy y 0 with h | h | h
  · have hy0 : (y : Rat) < 0 := cast_lt.2 h
    have hb := h3 h
    have m0 : (m : Rat) ≤ 0 := cast_le.2 hb.2
    have m1 : (y : Rat) < (m : Rat) := cast_lt.2 hb.1
    refine floor_unique ?_ ?_
    · by_cases h4 : (q : Rat) ≤ V
      · exact h4
      · exfalso
        have h5 := Rat.mul_lt_mul_of_pos_right (Rat.not_le.1 h4) (show (0 : Rat) < -(y : Rat) by grind)
        grind
    · by_cases h4 : V < (q : Rat) + 1
      · exact h4
      · exfalso
        have h5 := Rat.mul_le_mul_of_nonneg_right (Rat.not_lt.1 h4) (show (0 : Rat) ≤ -(y : Rat) by grind)
        grind
  · exact absurd h hy
  · have hy0 : (0 : Rat) < (y : Rat) := cast_lt.2 h
    have hb := h2 h
    have m0 : (0 : Rat) ≤ (m : Rat) := cast_le.2 hb.1
    have m1 : (m : Rat) < (y : Rat) := cast_lt.2 hb.2
    refine floor_unique ?_ ?_
    · by_cases h4 : (q : Rat) ≤ V
      · exact h4
      · exfalso
        have h5 := Rat.mul_lt_mul_of_pos_right (Rat.not_le.1 h4) hy0
        grind
    · by_cases h4 : V < (q : Rat) + 1
      · exact h4
      · exfalso
        have h5 := Rat.mul_le_mul_of_nonneg_right (Rat.not_lt.1 h4) (show (0 : Rat) ≤ (y : Rat) by grind)
        grind
theorem quo_gcd {x y : Int} (hy : y ≠ 0) : y.fdiv (Nat.gcd x.natAbs y.natAbs : Int) ≠ 0 ∧ Rat.divInt (x.fdiv (Nat.gcd x.natAbs y.natAbs : Int)) (y.fdiv (Nat.gcd x.natAbs y.natAbs : Int)) = Rat.divInt x y := by
  have hG := gcd_ne (x := x) hy
  have d1 : ((Nat.gcd x.natAbs y.natAbs : Nat) : Int) ∣ x := Int.ofNat_dvd_left.2 (Nat.gcd_dvd_left _ _)
  have d2 : ((Nat.gcd x.natAbs y.natAbs : Nat) : Int) ∣ y := Int.ofNat_dvd_left.2 (Nat.gcd_dvd_right _ _)
  generalize Nat.gcd x.natAbs y.natAbs = G at *
  obtain ⟨a, rfl⟩ := d1
  obtain ⟨b, rfl⟩ := d2
  have G0 : (G : Int) ≠ 0 := by omega
  have hb : b ≠ 0 := by rintro rfl; simp at hy
  rw [Int.mul_fdiv_cancel_left _ G0, Int.mul_fdiv_cancel_left _ G0]
  exact ⟨hb, (Rat.divInt_mul_left G0).symm⟩
set_option maxHeartbeats 4000000 in
theorem truns_any (w : World) (ht : Tab w) : Calls Tryz.prog 28 #[] w fun e w' => e = .returned (.bool true) ∧ Below w.heap.size w w' := by
  have hB := Below.refl w.heap.size w
  have HT := Lib.hid ht
  have f100 : Fit 100 := fit_s (k := 3) (by decide) (by decide)
  have f7 : Fit 7 := fit_s (k := 3) (by decide) (by decide)
  have HQ := Lib.hid (fun w ht => quo_fit f100 f7 (by decide) (z := 14) (by decide) w ht)
  have HR := Lib.hid (fun w ht => rem_fit f100 f7 (by decide) (z := 2) (by decide) w ht)
  have HO := Lib.hid (fun w ht => qof_fit f100 f7 (by decide) w ht)
  have hF := fun w ht => qfloor_fit (red_fit f100 f7 (by decide)) w ht
  rw [show (Rat.divInt 100 7).floor = 14 by decide +kernel] at hF
  have HF := Lib.hid hF
  rw [← sv_100_7] at HO HF
  rw [← t14] at HQ HF
  rw [← t2] at HR
  rw [← t100, ← t7] at HQ HR HO
  clear hF ht f100 f7
  go_enter Tryz.func28, Tryz.ntmps28
  go_wp2_with (first | (go_at_call 30; with_reducible refine (HQ.out _ (HT.out.below hB)).mono ?_; rintro e wk ⟨rfl, hb⟩; replace hB := hB.trans (hb.mono hB.size); clear hb) | (go_at_call 31; with_reducible refine (HR.out _ (HT.out.below hB)).mono ?_; rintro e wk ⟨rfl, hb⟩; replace hB := hB.trans (hb.mono hB.size); clear hb) | (go_at_call 32; with_reducible refine (HO.out _ (HT.out.below hB)).mono ?_; rintro e wk ⟨rfl, hb⟩; replace hB := hB.trans (hb.mono hB.size); clear hb) | (go_at_call 33; with_reducible refine (HF.out _ (HT.out.below hB)).mono ?_; rintro e wk ⟨rfl, hb⟩; replace hB := hB.trans (hb.mono hB.size); clear hb))
  go_ret
  exact ⟨rfl, hB⟩
def shortT1 (s : ByteArray) : Bool := decide (s.size ≤ 40) && decide (chkI s.data.toList = 0)
def shortT (l : List ByteArray) : Bool := l.all shortT1
set_option maxRecDepth 100000 in
set_option maxHeartbeats 2000000 in
theorem tshort_any (A : Option Addr) (n c : Nat) (l : List ByteArray) (w : World) (hl : Ss w A n l) (hn : n ≤ 1000) (hs : ∀ s ∈ l, s.size ≤ 9223372036854775807) :
    Calls Tryz.prog 29 #[.slice A n c] w fun e w' => e = .returned (.bool (shortT l)) ∧ Below w.heap.size w w' := by
  obtain ⟨rfl, _⟩ := id hl
  have HS := Lib.hid hs
  clear hs
  go_enter Tryz.func29, Tryz.ntmps29
  go_wp2
  go_loopw [7] (fun iv wr => ∃ k : Nat, k ≤ l.length ∧ iv = .int .i64 k ∧ (l.take k).all shortT1 = true ∧ Below w.heap.size w wr) (fun iv _ => l.length - (intOf iv).toNat)
  case atStart => exact ⟨0, Nat.zero_le _, rfl, by simp, Below.refl _ _⟩
  case round =>
    obtain ⟨k, hk, rfl, hall, hB⟩ := hrel
    by_cases hlt : k < l.length
    · obtain ⟨b, o, rfl, _, hc⟩ := (hl.below hB).at1 hlt
      obtain ⟨hf, ht⟩ := all_take hlt hall
      have hsz := HS.out l[k] (List.getElem_mem hlt)
      have hC := fun w => rcheck_any l[k] w hsz
      have hd : shortT1 l[k] = (decide (l[k].size ≤ 40) && decide (chkI l[k].data.toList = 0)) := rfl
      have hfe : (l.all shortT1) = shortT l := rfl
      rw [hfe] at hf
      generalize chkI l[k].data.toList = e at *
      generalize l[k] = s at *
      have HF := Lib.hid hf
      have HT := Lib.hid ht
      have HD := Lib.hid hd
      clear hf ht hd hall hfe
      by_cases h4 : s.size ≤ 40
      · have HCw := Lib.hid hC
        by_cases he : e = 0
        · subst he
          have hv : shortT1 s = true := by rw [HD.out, decide_eq_true h4]; rfl
          have H1 := Lib.hid (HT.out hv)
          have g5 : decide ((40 : Int) < (s.size : Int)) = false := by simp; omega
          clear hv hC
          go_wp2_with (go_at_call 67; with_reducible refine (HCw.out _).mono ?_; rintro e wk ⟨rfl, hb⟩; replace hB := hB.trans (hb.mono hB.size); clear hb)
          go_roundw
          case rel => exact ⟨k + 1, by omega, by go_num, H1.out, hB⟩
          case measure => simp [intOf]; omega
        · have g1 : (e == 0) = false := by simpa using he
          have g2 : (e != 0) = true := by simpa using he
          have hv : shortT1 s = false := by rw [HD.out, decide_eq_false he, Bool.and_false]
          have H1 := Lib.hid (HF.out hv)
          have g5 : decide ((40 : Int) < (s.size : Int)) = false := by simp; omega
          clear hv hC
          go_wp2_with (go_at_call 67; with_reducible refine (HCw.out _).mono ?_; rintro e wk ⟨rfl, hb⟩; replace hB := hB.trans (hb.mono hB.size); clear hb)
          go_ret
          exact ⟨by rw [H1.out]; rfl, hB⟩
      · have hv : shortT1 s = false := by rw [HD.out, decide_eq_false h4, Bool.false_and]
        have H1 := Lib.hid (HF.out hv)
        have g5 : decide ((40 : Int) < (s.size : Int)) = true := by simp; omega
        clear hv hC
        go_wp2
        go_ret
        exact ⟨by rw [H1.out]; rfl, hB⟩
    · obtain rfl : k = l.length := by omega
      rw [List.take_length] at hall
      have H1 := Lib.hid (show shortT l = true from hall)
      clear hall
      go_wp2
      go_ret
      exact ⟨by rw [H1.out]; rfl, hB⟩
theorem short_all {l : List ByteArray} (h : shortT l = true) : ∀ s ∈ l, ∃ x : Int, s = sI x ∧ x.natAbs < 10 ^ 40 := by
  intro s hs
  have h1 := List.all_eq_true.1 h s hs
  unfold shortT1 at h1
  simp only [Bool.and_eq_true, decide_eq_true_eq] at h1
  obtain ⟨hz, hf⟩ := valI_ok h1.2
  refine ⟨_, sI_of hz, (dec_len_iff (k := 40) (by decide)).1 ?_⟩
  have h2 : (Lib.itoa (valI s.data.toList)).length ≤ 40 := by rw [← hz, bytes_len]; exact h1.1
  have h3 := bodyT_itoa (valI s.data.toList)
  have h4 := text_split (Lib.itoa (valI s.data.toList))
  rw [h3] at h4
  rw [h4] at h2
  split at h2
  · simp at h2; omega
  · exact h2
set_option maxRecDepth 100000 in
set_option maxHeartbeats 8000000 in
theorem divisions_walk (w : World) (a : ByteArray) (ha : a.size ≤ maxLen) (b : ByteArray) (hb : b.size ≤ maxLen) (hL : Laid w) :
    Calls Tryz.prog 8 #[.string a, .string b] w fun e w' => e = .returned (.bool true) ∧ Below w.heap.size w w' := by
  unfold maxLen at ha hb
  have hB := Below.refl w.heap.size w
  have HT := Lib.hid hL.1
  have HRu := Lib.hid (fun w h => truns_any w h)
  have hF := fun w => tshort_any (some ⟨w.heap.size, 0, none⟩) 2 2 [a, b] _ (Ss.fresh w [a, b] 47 #[.string a, .string b] rfl) (by omega) (by intro s hs; simp at hs; rcases hs with rfl | rfl <;> omega)
  have HAl := Lib.hid (fun (wk : World) (h : Below w.heap.size w wk) => h.alloc h.size (.cells #[.string a, .string b] 47))
  clear hL
  cases hf : shortT [a, b]
  · simp only [hf] at hF
    have HF := Lib.hid hF
    clear hF hf
    go_enter Tryz.func8, Tryz.ntmps8
    go_wp2_with (first | (go_at_call 28; with_reducible refine (HRu.out _ (HT.out.below hB)).mono ?_; rintro e wk ⟨rfl, hb⟩; replace hB := hB.trans (hb.mono hB.size); clear hb) | (go_at_call 29; refine (HF.out _).mono ?_; rintro e wk ⟨rfl, hb2⟩; replace hB := (HAl.out _ hB).trans (hb2.mono (HAl.out _ hB).size); clear hb2))
    go_ret
    exact ⟨rfl, hB⟩
  obtain ⟨x, hx, hxs⟩ := short_all hf a (by simp)
  obtain ⟨y, hy, hys⟩ := short_all hf b (by simp)
  simp only [hf] at hF
  have HF := Lib.hid hF
  subst hx hy
  have g0 := is_zero (sI y)
  have e0 : decide ((sI y).data.toList = [48]) = decide (y = 0) := by rw [decide_eq_decide, sI_list]; exact itoa_eq_zero
  rw [e0] at g0
  clear hF hf e0
  by_cases h0 : y = 0
  · rw [decide_eq_true h0] at g0
    clear h0 hxs hys
    go_enter Tryz.func8, Tryz.ntmps8
    go_wp2_with (first | (go_at_call 28; with_reducible refine (HRu.out _ (HT.out.below hB)).mono ?_; rintro e wk ⟨rfl, hb⟩; replace hB := hB.trans (hb.mono hB.size); clear hb) | (go_at_call 29; refine (HF.out _).mono ?_; rintro e wk ⟨rfl, hb2⟩; replace hB := (HAl.out _ hB).trans (hb2.mono (HAl.out _ hB).size); clear hb2))
    go_ret
    exact ⟨rfl, hB⟩
  rw [decide_eq_false h0] at g0
  have fx : Fit x := fit_s hxs (by decide)
  have fy : Fit y := fit_s hys (by decide)
  have sV : SzR 40 (Rat.divInt x y) := SzR.red h0 hxs hys
  obtain ⟨q1, q2⟩ := floor_quo (x := x) h0
  obtain ⟨g1, g2⟩ := quo_gcd (x := x) h0
  have fq : (x.fdiv y).natAbs < 10 ^ 41 := by
    have := natAbs_fdiv_le x h0
    omega
  have fg := fit_lt_gcd fx fy
  have hg0 := gcd_ne (x := x) h0
  have HQ := Lib.hid (fun w ht => quo_fit fx fy h0 rfl w ht)
  have HR := Lib.hid (fun w ht => rem_fit fx fy h0 rfl w ht)
  have HO := Lib.hid (fun w ht => qof_fit fx fy h0 w ht)
  have hFl := fun w ht => qfloor_fit (sV.fit (by decide)) w ht
  rw [q1] at hFl
  have HFl := Lib.hid hFl
  have sQ : SzR 41 ((x.fdiv y : Int) : Rat) := SzR.int fq (by decide)
  have HS := Lib.hid (fun w ht => qSub_fit sV sQ w ht (by decide))
  have sY : SzR 40 ((y : Int) : Rat) := SzR.int hys (by decide)
  have hM := fun w ht => qMul_fit (sV.sub sQ) sY w ht (by decide)
  rw [q2] at hM
  have HM := Lib.hid hM
  rw [sR_int (x.fdiv y)] at HS
  rw [sR_int y, sR_int (x.fmod y)] at HM
  have HG := Lib.hid (fun w ht => gcd_fit fx fy (z := (Nat.gcd x.natAbs y.natAbs : Int)) fg rfl w ht)
  have HQ1 := Lib.hid (fun w ht => quo_fit fx fg (by omega) rfl w ht)
  have HQ2 := Lib.hid (fun w ht => quo_fit fy fg (by omega) rfl w ht)
  have hO2 := fun w ht => qof_fit (fdiv_fit fx (show (Nat.gcd x.natAbs y.natAbs : Int) ≠ 0 by omega)) (fdiv_fit fy (show (Nat.gcd x.natAbs y.natAbs : Int) ≠ 0 by omega)) g1 w ht
  rw [g2] at hO2
  have HO2 := Lib.hid hO2
  generalize Rat.divInt x y - ((x.fdiv y : Int) : Rat) = L at *
  generalize Rat.divInt x y = V at *
  generalize y.fdiv (Nat.gcd x.natAbs y.natAbs : Int) = y2 at *
  generalize x.fdiv (Nat.gcd x.natAbs y.natAbs : Int) = x2 at *
  generalize (Nat.gcd x.natAbs y.natAbs : Int) = G at *
  generalize x.fdiv y = q at *
  generalize x.fmod y = m at *
  have s1 : ((sI q).toList == (sI q).toList) = true := by simp
  have s2 : ((sI m).toList == (sI m).toList) = true := by simp
  have s3 : ((sR V).toList == (sR V).toList) = true := by simp
  have s4 : ((sI q).toList != (sI q).toList) = false := by simp
  clear hFl hM hO2 fx fy sV q1 q2 g1 g2 fq fg hg0 sQ sY h0 hxs hys
  go_enter Tryz.func8, Tryz.ntmps8
  go_wp2_with (first | (go_at_call 28; with_reducible refine (HRu.out _ (HT.out.below hB)).mono ?_; rintro e wk ⟨rfl, hb⟩; replace hB := hB.trans (hb.mono hB.size); clear hb) | (go_at_call 29; refine (HF.out _).mono ?_; rintro e wk ⟨rfl, hb2⟩; replace hB := (HAl.out _ hB).trans (hb2.mono (HAl.out _ hB).size); clear hb2) | (go_at_call 30; with_reducible refine (HQ.out _ (HT.out.below hB)).mono ?_; rintro e wk ⟨rfl, hb⟩; replace hB := hB.trans (hb.mono hB.size); clear hb) | (go_at_call 31; with_reducible refine (HR.out _ (HT.out.below hB)).mono ?_; rintro e wk ⟨rfl, hb⟩; replace hB := hB.trans (hb.mono hB.size); clear hb) | (go_at_call 32; with_reducible refine (HO.out _ (HT.out.below hB)).mono ?_; rintro e wk ⟨rfl, hb⟩; replace hB := hB.trans (hb.mono hB.size); clear hb) | (go_at_call 33; with_reducible refine (HFl.out _ (HT.out.below hB)).mono ?_; rintro e wk ⟨rfl, hb⟩; replace hB := hB.trans (hb.mono hB.size); clear hb) | (go_at_call 34; with_reducible refine (HS.out _ (HT.out.below hB)).mono ?_; rintro e wk ⟨rfl, hb⟩; replace hB := hB.trans (hb.mono hB.size); clear hb) | (go_at_call 35; with_reducible refine (HM.out _ (HT.out.below hB)).mono ?_; rintro e wk ⟨rfl, hb⟩; replace hB := hB.trans (hb.mono hB.size); clear hb) | (go_at_call 36; with_reducible refine (HG.out _ (HT.out.below hB)).mono ?_; rintro e wk ⟨rfl, hb⟩; replace hB := hB.trans (hb.mono hB.size); clear hb) | (go_at_call 30; with_reducible refine (HQ1.out _ (HT.out.below hB)).mono ?_; rintro e wk ⟨rfl, hb⟩; replace hB := hB.trans (hb.mono hB.size); clear hb) | (go_at_call 30; with_reducible refine (HQ2.out _ (HT.out.below hB)).mono ?_; rintro e wk ⟨rfl, hb⟩; replace hB := hB.trans (hb.mono hB.size); clear hb) | (go_at_call 32; with_reducible refine (HO2.out _ (HT.out.below hB)).mono ?_; rintro e wk ⟨rfl, hb⟩; replace hB := hB.trans (hb.mono hB.size); clear hb))
  go_ret
  exact ⟨rfl, hB⟩
end Go.Proofs.YtjbhfkcjmjhhdaaGreatDoor

namespace Go.Proofs.YtjbhfkcjmjhhdaaGreatDoor.topDivisionsAreRatiosP
open Go.ChangeShapes Go.ChangeMaps Go.WideShapes Go.ChangeAt Go.RowKit

set_option maxRecDepth 100000 in
theorem lifted (os : Os) (started : os.Started) (H : Type) (enc : TypeId × Value → H) :
    ReturnsInHanded {} Tryz.checked os 8 .any (fun w args => (Rows.topDivisionsAreRatiosSpec.pre enc Tryz.prog Tryz.f8 [] false w args ∧ laidMetH Tryz.prog Rows.topDivisionsAreRatiosRow.laid w) ∧ sizedMet enc Tryz.prog Tryz.f8 (OpenSpec.ofChange Rows.topDivisionsAreRatiosSpec) false w args)
      (Rows.topDivisionsAreRatiosSpec.post enc Tryz.prog Tryz.f8 false true false false) := by
  refine returnsInHanded_of_change_and (C := Tryz.checked) (X := fun w _ => laidMetH Tryz.prog Rows.topDivisionsAreRatiosRow.laid w) (fun _ _ _ hh h => h.of_heap hh) own_ started (by kernel_rfl) Tryz.func8
    (ChangeSpec.witness_at (enc := enc) (C := Tryz.checked) (os := os) (X := fun w _ => laidMetH Tryz.prog Rows.topDivisionsAreRatiosRow.laid w) false (laidWorld os) #[.string ⟨#[]⟩, .string ⟨#[]⟩] 8 rfl (by kernel_rfl) (by kernel_rfl) (by kernel_rfl) (by kernel_rfl) (by kernel_rfl) (laid_met os _)) ?_
  intro W base args ds gs before hval0 hW _ _ hL _
  have hval : ∀ (j : Nat) t v, Tryz.f8.params[j]? = some t → args[j]? = some v → Value.okWide Tryz.prog W .any base t v := hval0
  have hW' := hW
  obtain ⟨p, q, hA0, hV, rfl, hfz, hnd⟩ := hW
  have hA : DataW.TrodAll enc Tryz.prog W 0 (fun _ => true) true Tryz.f8.params.toList args.toList ds p := hA0
  rw [Tryz.params8] at hA hval
  obtain ⟨v0, vs0, d0, ds0, p0, q0, hargs, rfl, rfl, h0, r0⟩ := trodAll_cons hA
  obtain ⟨v1, vs1, d1, ds1, p1, q1, rfl, rfl, rfl, h1, r1⟩ := trodAll_cons r0
  obtain ⟨rfl, rfl, rfl⟩ := trodAll_nil r1
  obtain rfl : args = #[v0, v1] := by cases args; simp_all
  obtain ⟨rfl, rfl⟩ := trodVars_none hV
  obtain ⟨x0, rfl, rfl, rfl, w0⟩ := open_string Tryz.underlying47 (hval 0 47 v0 rfl rfl) h0
  obtain ⟨x1, rfl, rfl, rfl, w1⟩ := open_string Tryz.underlying47 (hval 1 47 v1 rfl rfl) h1
  clear hA0 hval0
  simp only [List.append_nil] at hW'
  refine (divisions_walk W x0 w0 x1 w1 (laid_of hL)).mono fun e W' ⟨he, bel⟩ => ?_
  subst he
  exact ⟨_, rfl, _, _, _, [], _, [], hW', trodAll_mk1 (shut_bool Tryz.underlying4 _), (trodAll_cons_mk (shut_string Tryz.underlying47 w0) (trodAll_cons_mk (shut_string Tryz.underlying47 w1) trodAll_mk0)), rfl, bel.frame _, fun h => by cases h⟩

theorem over : Rows.topDivisionsAreRatiosRow.holds Tryz.pinned (OpenSpec.ofChange Rows.topDivisionsAreRatiosSpec) :=
  OpenClaim.holds_of_wide 8 Tryz.f8 rfl rfl rfl rfl rfl rfl rfl ⟨rfl, rfl, rfl, rfl, rfl⟩ rfl rfl rfl rfl rfl (by kernel_rfl) Tryz.func8 (by kernel_rfl)
    (of_decide_eq_true (by kernel_rfl)) (by unfold Func.isWrapper; rw [if_neg (of_decide_eq_false (by kernel_rfl))]; exact ⟨rfl, rfl⟩)
    (fun os started H enc _ => lifted os started H enc)

theorem noStandIn : ∀ t ∈ Tryz.f8.params.toList, Tryz.prog.wantsStandIn t = false := by
  rw [Tryz.params8]
  intro t ht
  simp only [List.mem_cons, List.not_mem_nil, or_false] at ht
  rcases ht with rfl | rfl <;> kernel_rfl

theorem proved : Rows.TopDivisionsAreRatiosCardSaid :=
  Claim7.holds_tied_plain_at .later [] [.data, .data, .data, .data, .sentinel, .sentinel, .pinned] true (true, "a3705f77de91121ad3690cd473750cf63f56c5fd481251e259dd121ea00c8e18") true
    over (fun _ h => by cases h) (by kernel_rfl) (fun _ h => by cases h) topDivisionsAreRatios_row_tie rfl ⟨rfl, rfl⟩ (by kernel_rfl) rfl
    (fun f fn hf hfn => by
      obtain rfl : f = 8 := Option.some.inj ((show Tryz.prog.funcNamed "luminaire/luminairetop.TopDivisionsAreRatios" = some 8 by kernel_rfl).symm.trans hf) |>.symm
      obtain rfl : fn = Tryz.f8 := (Option.some.inj (Tryz.func8.symm.trans hfn)).symm
      exact ⟨by kernel_rfl, fun j t ht => noStandIn t (Array.mem_toList_iff.2 (Array.mem_of_getElem? ht))⟩)
    (by kernel_rfl)
#print axioms proved
end Go.Proofs.YtjbhfkcjmjhhdaaGreatDoor.topDivisionsAreRatiosP
