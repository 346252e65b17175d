/- IntegerOrders: for every input the law returns true, and its arguments read behind the call as they read before. The package variables that the row lists hold what the program's text lays. -/
import Derived.Test.YtgnggipjebemeaaGreatDoorGLaw
import Derived.Test.YtgnggipjebemeaaGreatDoorCards
import Derived.Test.YtgnggipjebemeaaGreatDoorTie
import Derived.SevenTiedAt
namespace Go.Proofs.YtgnggipjebemeaaGreatDoor
open Go.RowKit

theorem add_lt10 {x y : Int} {k : Nat} (hx : x.natAbs < 10 ^ k) (hy : y.natAbs < 10 ^ k) : (x + y).natAbs < 10 ^ (k + 1) := by
  have h1 : (10 : Nat) ^ (k + 1) = 10 * 10 ^ k := by rw [Nat.pow_succ, Nat.mul_comm]
  generalize (10 : Nat) ^ k = A at *
  omega
theorem sub_lt10 {x y : Int} {k : Nat} (hx : x.natAbs < 10 ^ k) (hy : y.natAbs < 10 ^ k) : (x - y).natAbs < 10 ^ (k + 1) := by
  have h1 : (10 : Nat) ^ (k + 1) = 10 * 10 ^ k := by rw [Nat.pow_succ, Nat.mul_comm]
  generalize (10 : Nat) ^ k = A at *
  omega
theorem mul_lt10 {x y : Int} {k m : Nat} (hx : x.natAbs < 10 ^ k) (hy : y.natAbs < 10 ^ m) : (x * y).natAbs < 10 ^ (k + m) := by
  rw [Int.natAbs_mul, Nat.pow_add]
  exact Nat.mul_lt_mul'' hx hy
theorem fit_diff {k : Nat} (hk : k ≤ 1000) {x y : Int} (hx : x.natAbs < 10 ^ k) (hy : y.natAbs < 10 ^ k) : Fit (x - y) := fit_lt (sub_lt10 hx hy) (by omega)
theorem fit_up {k : Nat} {x : Int} (h : x.natAbs < 10 ^ k) (hk : k ≤ 400) : x.natAbs < 10 ^ 400 := up_lt10 (m := 400) h hk
theorem ring_fits {k : Nat} (hk : k ≤ 1000) {x y z : Int} (hx : x.natAbs < 10 ^ k) (hy : y.natAbs < 10 ^ k) (hz : z.natAbs < 10 ^ k) :
    Fit x ∧ Fit y ∧ Fit z ∧ Fit (x + y) ∧ Fit (y + z) ∧ Fit (x + y + z) ∧ Fit (x * y) ∧ Fit (x * z) ∧ Fit (x * y + x * z) :=
  ⟨fit_lt hx (by omega), fit_lt hy (by omega), fit_lt hz (by omega), fit_lt (add_lt10 hx hy) (by omega), fit_lt (add_lt10 hy hz) (by omega),
    fit_lt (add_lt10 (add_lt10 hx hy) (up_lt10 hz (by omega))) (by omega), fit_lt (mul_lt10 hx hy) (by omega), fit_lt (mul_lt10 hx hz) (by omega),
    fit_lt (add_lt10 (mul_lt10 hx hy) (mul_lt10 hx hz)) (by omega)⟩

set_option maxRecDepth 100000 in
set_option maxHeartbeats 4000000 in
theorem ring_walk (w : World) (a : ByteArray) (ha : a.size ≤ maxLen) (b : ByteArray) (hb : b.size ≤ maxLen) (c : ByteArray) (hc : c.size ≤ maxLen) (hL : Laid w) :
    Calls Tryz.prog 4 #[.string a, .string b, .string c] w fun e w' => e = .returned (.bool true) ∧ Below w.heap.size w w' := by
  unfold maxLen at ha hb hc
  have HT := Lib.hid hL.1
  have hB0 := (Below.refl w.heap.size w).alloc (Nat.le_refl _) (.cells #[.string a, .string b, .string c] 22)
  have hF := right_any (some ⟨w.heap.size, 0, none⟩) 3 3 [a, b, c] _ (Ss.fresh w [a, b, c] 22 #[.string a, .string b, .string c] rfl) (by omega) (by intro s hs; simp at hs; rcases hs with rfl | rfl | rfl <;> omega)
  have HAw := Lib.hid (fun w h => awake_any w h)
  clear hL
  cases hf : rightT [a, b, c]
  · rw [hf] at hF
    have HF := Lib.hid hF
    clear hF hf
    go_enter Tryz.func4, Tryz.ntmps4
    go_wp2_with (first | (go_at_call 21; with_reducible refine HF.out.mono ?_; rintro e wk ⟨rfl, hb⟩; have hB := hB0.trans (hb.mono hB0.size); clear hb) | (go_at_call 11; with_reducible refine (HAw.out _ (HT.out.below hB)).mono ?_; rintro e wk ⟨rfl, hb⟩; replace hB := hB.trans (hb.mono hB.size); clear hb))
    go_ret
    exact ⟨rfl, hB⟩
  · have hall := right_all hf
    rw [hf] at hF
    have HF := Lib.hid hF
    clear hF hf ha hb hc
    obtain ⟨x, rfl, hx⟩ := hall a (by simp)
    obtain ⟨y, rfl, hy⟩ := hall b (by simp)
    obtain ⟨z, rfl, hz⟩ := hall c (by simp)
    obtain ⟨fx, fy, fz, fxy, fyz, fxyz, fp, fq, fr⟩ := ring_fits (k := 400) (by decide) hx hy hz
    clear hall hx hy hz
    have h1 := fun w h => add_fit fx fy fxy rfl w h
    have h2 := fun w h => add_fit fy fx fxy (Int.add_comm y x) w h
    have h3 := fun w h => add_fit fy fz fyz rfl w h
    have h4 := fun w h => add_fit fxy fz fxyz rfl w h
    have h5 := fun w h => add_fit fx fyz fxyz (Int.add_assoc x y z).symm w h
    have h6 := fun w h => mul_fit fx fy fp rfl w h
    have h7 := fun w h => mul_fit fx fz fq rfl w h
    have h8 := fun w h => mul_fit fx fyz fr (Int.mul_add x y z) w h
    have h9 := fun w h => add_fit fp fq fr rfl w h
    have h10 := fun w h => mul_fit fy fx fp (Int.mul_comm y x) w h
    generalize sI (x * y + x * z) = R at *
    generalize sI (x + y + z) = S at *
    generalize sI (x * y) = P at *
    generalize sI (x * z) = Q at *
    generalize sI (x + y) = AB at *
    generalize sI (y + z) = BC at *
    generalize sI x = a at *
    generalize sI y = b at *
    generalize sI z = c at *
    have H1 := Lib.hid h1
    have H2 := Lib.hid h2
    have H3 := Lib.hid h3
    have H4 := Lib.hid h4
    have H5 := Lib.hid h5
    have H6 := Lib.hid h6
    have H7 := Lib.hid h7
    have H8 := Lib.hid h8
    have H9 := Lib.hid h9
    have H10 := Lib.hid h10
    clear h1 h2 h3 h4 h5 h6 h7 h8 h9 h10 fx fy fz fxy fyz fxyz fp fq fr
    go_enter Tryz.func4, Tryz.ntmps4
    go_wp2_with (first | (go_at_call 21; with_reducible refine HF.out.mono ?_; rintro e wk ⟨rfl, hb⟩; have hB := hB0.trans (hb.mono hB0.size); clear hb) | (go_at_call 11; with_reducible refine (HAw.out _ (HT.out.below hB)).mono ?_; rintro e wk ⟨rfl, hb⟩; replace hB := hB.trans (hb.mono hB.size); clear hb) | (go_at_call 22; with_reducible refine (H1.out _ (HT.out.below hB)).mono ?_; rintro e wk ⟨rfl, hb⟩; replace hB := hB.trans (hb.mono hB.size); clear hb) | (go_at_call 22; with_reducible refine (H2.out _ (HT.out.below hB)).mono ?_; rintro e wk ⟨rfl, hb⟩; replace hB := hB.trans (hb.mono hB.size); clear hb) | (go_at_call 22; with_reducible refine (H3.out _ (HT.out.below hB)).mono ?_; rintro e wk ⟨rfl, hb⟩; replace hB := hB.trans (hb.mono hB.size); clear hb) | (go_at_call 22; with_reducible refine (H4.out _ (HT.out.below hB)).mono ?_; rintro e wk ⟨rfl, hb⟩; replace hB := hB.trans (hb.mono hB.size); clear hb) | (go_at_call 22; with_reducible refine (H5.out _ (HT.out.below hB)).mono ?_; rintro e wk ⟨rfl, hb⟩; replace hB := hB.trans (hb.mono hB.size); clear hb) | (go_at_call 12; with_reducible refine (H6.out _ (HT.out.below hB)).mono ?_; rintro e wk ⟨rfl, hb⟩; replace hB := hB.trans (hb.mono hB.size); clear hb) | (go_at_call 12; with_reducible refine (H7.out _ (HT.out.below hB)).mono ?_; rintro e wk ⟨rfl, hb⟩; replace hB := hB.trans (hb.mono hB.size); clear hb) | (go_at_call 12; with_reducible refine (H8.out _ (HT.out.below hB)).mono ?_; rintro e wk ⟨rfl, hb⟩; replace hB := hB.trans (hb.mono hB.size); clear hb) | (go_at_call 22; with_reducible refine (H9.out _ (HT.out.below hB)).mono ?_; rintro e wk ⟨rfl, hb⟩; replace hB := hB.trans (hb.mono hB.size); clear hb) | (go_at_call 12; with_reducible refine (H10.out _ (HT.out.below hB)).mono ?_; rintro e wk ⟨rfl, hb⟩; replace hB := hB.trans (hb.mono hB.size); clear hb))
    go_ret
    exact ⟨rfl, hB⟩

theorem remains_eq (x y : Int) : y * x.fdiv y + x.fmod y = x := Int.mul_fdiv_add_fmod x y
theorem sign_lt {n : Int} (h : n < 0) : n.sign = -1 := Int.sign_eq_neg_one_of_neg h
theorem fmod_facts (x : Int) {y : Int} (hy : y ≠ 0) : (x.fmod y).natAbs < y.natAbs ∧ ((x.fmod y).sign = 0 ∨ (x.fmod y).sign = y.sign) := by
  obtain ⟨_, h2, h3⟩ := fd_spec x hy
  generalize x.fmod y = r at *
  rcases Int.lt_trichotomy y 0 with h | h | h
  · obtain ⟨e1, e2⟩ := h3 h
    refine ⟨by omega, ?_⟩
    rcases Int.lt_or_eq_of_le e2 with h4 | h4
    · exact .inr (by rw [Int.sign_eq_neg_one_of_neg h4, Int.sign_eq_neg_one_of_neg h])
    · exact .inl (by rw [h4]; rfl)
  · exact absurd h hy
  · obtain ⟨e1, e2⟩ := h2 h
    refine ⟨by omega, ?_⟩
    rcases Int.lt_or_eq_of_le e1 with h4 | h4
    · exact .inr (by rw [Int.sign_eq_one_of_pos h4, Int.sign_eq_one_of_pos h])
    · exact .inl (by rw [← h4]; rfl)

set_option maxRecDepth 100000 in
set_option maxHeartbeats 4000000 in
theorem remains_walk (w : World) (a : ByteArray) (ha : a.size ≤ maxLen) (b : ByteArray) (hb : b.size ≤ maxLen) (hL : Laid w) :
    Calls Tryz.prog 7 #[.string a, .string b] w fun e w' => e = .returned (.bool true) ∧ Below w.heap.size w w' := by
  unfold maxLen at ha hb
  have HT := Lib.hid hL.1
  have hB0 := (Below.refl w.heap.size w).alloc (Nat.le_refl _) (.cells #[.string a, .string b] 22)
  have hF := right_any (some ⟨w.heap.size, 0, none⟩) 2 2 [a, b] _ (Ss.fresh w [a, b] 22 #[.string a, .string b] rfl) (by omega) (by intro s hs; simp at hs; rcases hs with rfl | rfl <;> omega)
  have HAw := Lib.hid (fun w h => awake_any w h)
  clear hL
  cases hf : rightT [a, b]
  · rw [hf] at hF
    have HF := Lib.hid hF
    clear hF hf
    go_enter Tryz.func7, Tryz.ntmps7
    go_wp2_with (first | (go_at_call 21; with_reducible refine HF.out.mono ?_; rintro e wk ⟨rfl, hb⟩; have hB := hB0.trans (hb.mono hB0.size); clear hb) | (go_at_call 11; with_reducible refine (HAw.out _ (HT.out.below hB)).mono ?_; rintro e wk ⟨rfl, hb⟩; replace hB := hB.trans (hb.mono hB.size); clear hb))
    go_ret
    exact ⟨rfl, hB⟩
  · have hall := right_all hf
    rw [hf] at hF
    have HF := Lib.hid hF
    clear hF hf ha hb
    obtain ⟨x, rfl, hx⟩ := hall a (by simp)
    obtain ⟨y, rfl, hy⟩ := hall b (by simp)
    obtain ⟨fx, fy, -⟩ := ring_fits (k := 400) (by decide) hx hy hy
    clear hall
    by_cases hy0 : y = 0
    · have g1 : ((sI y).toList == [48]) = true := by rw [is_zero, sI_list, decide_eq_true (itoa_eq_zero.2 hy0)]
      clear hy0 fx fy hx hy
      generalize sI y = b at *
      generalize sI x = a at *
      go_enter Tryz.func7, Tryz.ntmps7
      go_wp2_with (first | (go_at_call 21; with_reducible refine HF.out.mono ?_; rintro e wk ⟨rfl, hb⟩; have hB := hB0.trans (hb.mono hB0.size); clear hb) | (go_at_call 11; with_reducible refine (HAw.out _ (HT.out.below hB)).mono ?_; rintro e wk ⟨rfl, hb⟩; replace hB := hB.trans (hb.mono hB.size); clear hb))
      go_ret
      exact ⟨rfl, hB⟩
    · have g1 : ((sI y).toList == [48]) = false := by
        rw [is_zero, sI_list, decide_eq_false (fun h => hy0 (itoa_eq_zero.1 h))]
      have fq := fdiv_fit fx hy0
      have fr := fmod_fit (x := x) fy hy0
      have heq := remains_eq x y
      obtain ⟨hlt, hsg⟩ := fmod_facts x hy0
      have fp : Fit (y * x.fdiv y) := by
        rw [show y * x.fdiv y = x - x.fmod y by omega]
        exact fit_diff (k := 400) (by decide) hx (Nat.lt_trans hlt hy)
      clear hx hy
      have h1 := fun w h => quo_fit fx fy hy0 rfl w h
      have h2 := fun w h => rem_fit fx fy hy0 rfl w h
      have h3 := fun w h => mul_fit fy fq fp rfl w h
      have h4 := fun w h => add_fit fp fr fx heq w h
      have h5 := fun w => abs_fit fr w
      have h6 := fun w => abs_fit fy w
      have h7 := fun w => com_fit (x := ((x.fmod y).natAbs : Int)) (y := (y.natAbs : Int)) (by unfold Fit at *; rwa [Int.natAbs_natCast]) (by unfold Fit at *; rwa [Int.natAbs_natCast]) w
      rw [sign_lt (by omega : ((x.fmod y).natAbs : Int) - (y.natAbs : Int) < 0)] at h7
      have h8 := fun w => sgn_fit fr w
      have h9 := fun w => sgn_fit fy w
      generalize sI ((x.fmod y).natAbs : Int) = MR at *
      generalize sI (y.natAbs : Int) = MY at *
      generalize sI (y * x.fdiv y) = P at *
      generalize sI (x.fdiv y) = Q at *
      generalize sI (x.fmod y) = R at *
      generalize sI x = a at *
      generalize sI y = b at *
      clear fx fy fq fr fp heq hlt hy0
      have H1 := Lib.hid h1
      have H2 := Lib.hid h2
      have H3 := Lib.hid h3
      have H4 := Lib.hid h4
      have H5 := Lib.hid h5
      have H6 := Lib.hid h6
      have H7 := Lib.hid h7
      rcases hsg with h0 | h0
      · rw [h0] at h8
        have H8 := Lib.hid h8
        have H9 := Lib.hid h9
        generalize y.sign = sy at *
        clear h1 h2 h3 h4 h5 h6 h7 h8 h9 h0
        go_enter Tryz.func7, Tryz.ntmps7
        go_wp2_with (first | (go_at_call 21; with_reducible refine HF.out.mono ?_; rintro e wk ⟨rfl, hb⟩; have hB := hB0.trans (hb.mono hB0.size); clear hb) | (go_at_call 11; with_reducible refine (HAw.out _ (HT.out.below hB)).mono ?_; rintro e wk ⟨rfl, hb⟩; replace hB := hB.trans (hb.mono hB.size); clear hb) | (go_at_call 14; with_reducible refine (H1.out _ (HT.out.below hB)).mono ?_; rintro e wk ⟨rfl, hb⟩; replace hB := hB.trans (hb.mono hB.size); clear hb) | (go_at_call 16; with_reducible refine (H2.out _ (HT.out.below hB)).mono ?_; rintro e wk ⟨rfl, hb⟩; replace hB := hB.trans (hb.mono hB.size); clear hb) | (go_at_call 12; with_reducible refine (H3.out _ (HT.out.below hB)).mono ?_; rintro e wk ⟨rfl, hb⟩; replace hB := hB.trans (hb.mono hB.size); clear hb) | (go_at_call 22; with_reducible refine (H4.out _ (HT.out.below hB)).mono ?_; rintro e wk ⟨rfl, hb⟩; replace hB := hB.trans (hb.mono hB.size); clear hb) | (go_at_call 27; with_reducible refine (H5.out _).mono ?_; rintro e wk ⟨rfl, hb⟩; replace hB := hB.trans (hb.mono hB.size); clear hb) | (go_at_call 27; with_reducible refine (H6.out _).mono ?_; rintro e wk ⟨rfl, hb⟩; replace hB := hB.trans (hb.mono hB.size); clear hb) | (go_at_call 31; with_reducible refine (H7.out _).mono ?_; rintro e wk ⟨rfl, hb⟩; replace hB := hB.trans (hb.mono hB.size); clear hb) | (go_at_call 35; with_reducible refine (H8.out _).mono ?_; rintro e wk ⟨rfl, hb⟩; replace hB := hB.trans (hb.mono hB.size); clear hb) | (go_at_call 35; with_reducible refine (H9.out _).mono ?_; rintro e wk ⟨rfl, hb⟩; replace hB := hB.trans (hb.mono hB.size); clear hb))
        all_goals (go_ret; exact ⟨rfl, hB⟩)
      · rw [h0] at h8
        have H8 := Lib.hid h8
        have H9 := Lib.hid h9
        generalize y.sign = sy at *
        clear h1 h2 h3 h4 h5 h6 h7 h8 h9 h0
        go_enter Tryz.func7, Tryz.ntmps7
        go_wp2_with (first | (go_at_call 21; with_reducible refine HF.out.mono ?_; rintro e wk ⟨rfl, hb⟩; have hB := hB0.trans (hb.mono hB0.size); clear hb) | (go_at_call 11; with_reducible refine (HAw.out _ (HT.out.below hB)).mono ?_; rintro e wk ⟨rfl, hb⟩; replace hB := hB.trans (hb.mono hB.size); clear hb) | (go_at_call 14; with_reducible refine (H1.out _ (HT.out.below hB)).mono ?_; rintro e wk ⟨rfl, hb⟩; replace hB := hB.trans (hb.mono hB.size); clear hb) | (go_at_call 16; with_reducible refine (H2.out _ (HT.out.below hB)).mono ?_; rintro e wk ⟨rfl, hb⟩; replace hB := hB.trans (hb.mono hB.size); clear hb) | (go_at_call 12; with_reducible refine (H3.out _ (HT.out.below hB)).mono ?_; rintro e wk ⟨rfl, hb⟩; replace hB := hB.trans (hb.mono hB.size); clear hb) | (go_at_call 22; with_reducible refine (H4.out _ (HT.out.below hB)).mono ?_; rintro e wk ⟨rfl, hb⟩; replace hB := hB.trans (hb.mono hB.size); clear hb) | (go_at_call 27; with_reducible refine (H5.out _).mono ?_; rintro e wk ⟨rfl, hb⟩; replace hB := hB.trans (hb.mono hB.size); clear hb) | (go_at_call 27; with_reducible refine (H6.out _).mono ?_; rintro e wk ⟨rfl, hb⟩; replace hB := hB.trans (hb.mono hB.size); clear hb) | (go_at_call 31; with_reducible refine (H7.out _).mono ?_; rintro e wk ⟨rfl, hb⟩; replace hB := hB.trans (hb.mono hB.size); clear hb) | (go_at_call 35; with_reducible refine (H8.out _).mono ?_; rintro e wk ⟨rfl, hb⟩; replace hB := hB.trans (hb.mono hB.size); clear hb) | (go_at_call 35; with_reducible refine (H9.out _).mono ?_; rintro e wk ⟨rfl, hb⟩; replace hB := hB.trans (hb.mono hB.size); clear hb))
        all_goals (go_ret; exact ⟨rfl, hB⟩)

set_option maxRecDepth 100000 in
set_option maxHeartbeats 4000000 in
theorem orders_walk (w : World) (a : ByteArray) (ha : a.size ≤ maxLen) (b : ByteArray) (hb : b.size ≤ maxLen) (n : Int) (hn : (Lit.int .i64 n).wf = true) (hL : Laid w) :
    Calls Tryz.prog 8 #[.string a, .string b, .int .i64 n] w fun e w' => e = .returned (.bool true) ∧ Below w.heap.size w w' := by
  unfold maxLen at ha hb
  have hn' : -9223372036854775808 ≤ n ∧ n ≤ 9223372036854775807 := by simpa [Lit.wf, IntKind.min, IntKind.max, IntKind.bits, IntKind.signed] using hn
  obtain ⟨hn0, hn1⟩ := hn'
  have HT := Lib.hid hL.1
  have HR := Lib.hid hL.2
  have hB0 := (Below.refl w.heap.size w).alloc (Nat.le_refl _) (.cells #[.string a, .string b] 22)
  have hF := right_any (some ⟨w.heap.size, 0, none⟩) 2 2 [a, b] _ (Ss.fresh w [a, b] 22 #[.string a, .string b] rfl) (by omega) (by intro s hs; simp at hs; rcases hs with rfl | rfl <;> omega)
  have HAw := Lib.hid (fun w h => awake_any w h)
  clear hL
  cases hf : rightT [a, b]
  · rw [hf] at hF
    have HF := Lib.hid hF
    clear hF hf
    go_enter Tryz.func8, Tryz.ntmps8
    go_wp2_with (first | (go_at_call 21; with_reducible refine HF.out.mono ?_; rintro e wk ⟨rfl, hb⟩; have hB := hB0.trans (hb.mono hB0.size); clear hb) | (go_at_call 11; with_reducible refine (HAw.out _ (HT.out.below hB)).mono ?_; rintro e wk ⟨rfl, hb⟩; replace hB := hB.trans (hb.mono hB.size); clear hb))
    go_ret
    exact ⟨rfl, hB⟩
  · have hall := right_all hf
    rw [hf] at hF
    have HF := Lib.hid hF
    clear hF hf ha hb
    obtain ⟨x, rfl, hx⟩ := hall a (by simp)
    obtain ⟨y, rfl, hy⟩ := hall b (by simp)
    have hn9 : n.natAbs < 10 ^ 19 := by omega
    obtain ⟨fx, fy, fn, -, fyn, -⟩ := ring_fits (k := 400) (by decide) hx hy (fit_up (k := 19) hn9 (by decide))
    obtain ⟨-, -, -, fxn, -⟩ := ring_fits (k := 400) (by decide) hx (fit_up (k := 19) hn9 (by decide)) hy
    have fd : Fit (x - y) := fit_diff (k := 400) (by decide) hx hy
    clear hall hx hy hn9
    have h1 := fun w => com_fit fx fy w
    have h2 := fun w h => sub_fit fx fy fd rfl w h
    have h3 := fun w => sgn_fit fd w
    have h4 := fun w h => of_fit hn0 hn1 w h
    have h5 := fun w h => add_fit fx fn fxn rfl w h
    have h6 := fun w h => add_fit fy fn fyn rfl w h
    have h7 := fun w => com_fit fxn fyn w
    rw [show x + n - (y + n) = x - y by omega] at h7
    have h8 := fun w h => small_fit fn hn0 hn1 w h
    generalize sI (x - y) = D at *
    generalize sI (x + n) = XN at *
    generalize sI (y + n) = YN at *
    generalize sI x = a at *
    generalize sI y = b at *
    generalize sI n = N at *
    generalize (x - y).sign = s at *
    clear fx fy fn fyn fxn fd
    have H1 := Lib.hid h1
    have H2 := Lib.hid h2
    have H3 := Lib.hid h3
    have H4 := Lib.hid h4
    have H5 := Lib.hid h5
    have H6 := Lib.hid h6
    have H7 := Lib.hid h7
    have H8 := Lib.hid h8
    clear h1 h2 h3 h4 h5 h6 h7 h8
    go_enter Tryz.func8, Tryz.ntmps8
    go_wp2_with (first | (go_at_call 21; with_reducible refine HF.out.mono ?_; rintro e wk ⟨rfl, hb⟩; have hB := hB0.trans (hb.mono hB0.size); clear hb) | (go_at_call 11; with_reducible refine (HAw.out _ (HT.out.below hB)).mono ?_; rintro e wk ⟨rfl, hb⟩; replace hB := hB.trans (hb.mono hB.size); clear hb) | (go_at_call 31; with_reducible refine (H1.out _).mono ?_; rintro e wk ⟨rfl, hb⟩; replace hB := hB.trans (hb.mono hB.size); clear hb) | (go_at_call 24; with_reducible refine (H2.out _ (HT.out.below hB)).mono ?_; rintro e wk ⟨rfl, hb⟩; replace hB := hB.trans (hb.mono hB.size); clear hb) | (go_at_call 35; with_reducible refine (H3.out _).mono ?_; rintro e wk ⟨rfl, hb⟩; replace hB := hB.trans (hb.mono hB.size); clear hb) | (go_at_call 32; with_reducible refine (H4.out _ (HT.out.below hB)).mono ?_; rintro e wk ⟨rfl, hb⟩; replace hB := hB.trans (hb.mono hB.size); clear hb) | (go_at_call 22; with_reducible refine (H5.out _ (HT.out.below hB)).mono ?_; rintro e wk ⟨rfl, hb⟩; replace hB := hB.trans (hb.mono hB.size); clear hb) | (go_at_call 22; with_reducible refine (H6.out _ (HT.out.below hB)).mono ?_; rintro e wk ⟨rfl, hb⟩; replace hB := hB.trans (hb.mono hB.size); clear hb) | (go_at_call 31; with_reducible refine (H7.out _).mono ?_; rintro e wk ⟨rfl, hb⟩; replace hB := hB.trans (hb.mono hB.size); clear hb) | (go_at_call 36; with_reducible refine (H8.out _ (Rng.below HR.out hB)).mono ?_; rintro e wk ⟨rfl, hbk⟩; replace hB := hB.trans (hbk.mono hB.size); clear hbk))
    go_ret
    exact ⟨rfl, hB⟩
end Go.Proofs.YtgnggipjebemeaaGreatDoor

namespace Go.Proofs.YtgnggipjebemeaaGreatDoor.integerOrdersP
open Go.ChangeShapes Go.ChangeMaps Go.WideShapes Go.ChangeAt Go.RowKit

set_option maxRecDepth 100000 in
theorem lifted (os : Os) (started : os.Started) (H : Type) (enc : TypeId × Value → H) :
    ReturnsInHanded {} Tryz.checked os 8 .any (fun w args => (Rows.integerOrdersSpec.pre enc Tryz.prog Tryz.f8 [] false w args ∧ laidMetH Tryz.prog Rows.integerOrdersRow.laid w) ∧ sizedMet enc Tryz.prog Tryz.f8 (OpenSpec.ofChange Rows.integerOrdersSpec) false w args)
      (Rows.integerOrdersSpec.post enc Tryz.prog Tryz.f8 false true false false) := by
  refine returnsInHanded_of_change_and (C := Tryz.checked) (X := fun w _ => laidMetH Tryz.prog Rows.integerOrdersRow.laid w) (fun _ _ _ hh h => h.of_heap hh) own_ started (by kernel_rfl) Tryz.func8
    (ChangeSpec.witness_at (enc := enc) (C := Tryz.checked) (os := os) (X := fun w _ => laidMetH Tryz.prog Rows.integerOrdersRow.laid w) false (laidWorld os) #[.string ⟨#[]⟩, .string ⟨#[]⟩, .int .i64 0] 8 rfl (by kernel_rfl) (by kernel_rfl) (by kernel_rfl) (by kernel_rfl) (by kernel_rfl) (laid_met os _)) ?_
  intro W base args ds gs before hval0 hW _ _ hL _
  have hval : ∀ (j : Nat) t v, Tryz.f8.params[j]? = some t → args[j]? = some v → Value.okWide Tryz.prog W .any base t v := hval0
  have hW' := hW
  obtain ⟨p, q, hA0, hV, rfl, hfz, hnd⟩ := hW
  have hA : DataW.TrodAll enc Tryz.prog W 0 (fun _ => true) true Tryz.f8.params.toList args.toList ds p := hA0
  rw [Tryz.params8] at hA hval
  obtain ⟨v0, vs0, d0, ds0, p0, q0, hargs, rfl, rfl, h0, r0⟩ := trodAll_cons hA
  obtain ⟨v1, vs1, d1, ds1, p1, q1, rfl, rfl, rfl, h1, r1⟩ := trodAll_cons r0
  obtain ⟨v2, vs2, d2, ds2, p2, q2, rfl, rfl, rfl, h2, r2⟩ := trodAll_cons r1
  obtain ⟨rfl, rfl, rfl⟩ := trodAll_nil r2
  obtain rfl : args = #[v0, v1, v2] := by cases args; simp_all
  obtain ⟨rfl, rfl⟩ := trodVars_none hV
  obtain ⟨x0, rfl, rfl, rfl, w0⟩ := open_string Tryz.underlying22 (hval 0 22 v0 rfl rfl) h0
  obtain ⟨x1, rfl, rfl, rfl, w1⟩ := open_string Tryz.underlying22 (hval 1 22 v1 rfl rfl) h1
  obtain ⟨x2, rfl, rfl, rfl, w2⟩ := open_int Tryz.underlying3 (hval 2 3 v2 rfl rfl) h2
  clear hA0 hval0
  simp only [List.append_nil] at hW'
  refine (orders_walk W x0 w0 x1 w1 x2 w2 (laid_of hL)).mono fun e W' ⟨he, bel⟩ => ?_
  subst he
  exact ⟨_, rfl, _, _, _, [], _, [], hW', trodAll_mk1 (shut_bool Tryz.underlying4 _), (trodAll_cons_mk (shut_string Tryz.underlying22 w0) (trodAll_cons_mk (shut_string Tryz.underlying22 w1) (trodAll_cons_mk (shut_int Tryz.underlying3 w2) trodAll_mk0))), rfl, bel.frame _, fun h => by cases h⟩

theorem over : Rows.integerOrdersRow.holds Tryz.pinned (OpenSpec.ofChange Rows.integerOrdersSpec) :=
  OpenClaim.holds_of_wide 8 Tryz.f8 rfl rfl rfl rfl rfl rfl rfl ⟨rfl, rfl, rfl, rfl, rfl⟩ rfl rfl rfl rfl rfl (by kernel_rfl) Tryz.func8 (by kernel_rfl)
    (of_decide_eq_true (by kernel_rfl)) (by unfold Func.isWrapper; rw [if_neg (of_decide_eq_false (by kernel_rfl))]; exact ⟨rfl, rfl⟩)
    (fun os started H enc _ => lifted os started H enc)

theorem noStandIn : ∀ t ∈ Tryz.f8.params.toList, Tryz.prog.wantsStandIn t = false := by
  rw [Tryz.params8]
  intro t ht
  simp only [List.mem_cons, List.not_mem_nil, or_false] at ht
  rcases ht with rfl | rfl | rfl <;> kernel_rfl

theorem proved : Rows.IntegerOrdersCardSaid :=
  Claim7.holds_tied_plain_at .later [] [.data, .data, .data, .data, .sentinel, .sentinel, .pinned] true (true, "da94b0f823b9b65d38769238b5dbe6098aa8685618d44faf74c6bdbf67105759") true
    over (fun _ h => by cases h) (by kernel_rfl) (fun _ h => by cases h) integerOrders_row_tie rfl ⟨rfl, rfl⟩ (by kernel_rfl) rfl
    (fun f fn hf hfn => by
      obtain rfl : f = 8 := Option.some.inj ((show Tryz.prog.funcNamed "luminaire/luminairelaw01.IntegerOrders" = some 8 by kernel_rfl).symm.trans hf) |>.symm
      obtain rfl : fn = Tryz.f8 := (Option.some.inj (Tryz.func8.symm.trans hfn)).symm
      exact ⟨by kernel_rfl, fun j t ht => noStandIn t (Array.mem_toList_iff.2 (Array.mem_of_getElem? ht))⟩)
    (by kernel_rfl)
#print axioms proved
end Go.Proofs.YtgnggipjebemeaaGreatDoor.integerOrdersP
