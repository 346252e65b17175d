/- IntegerGrows: for every input the law returns true, and its arguments read behind the call as they read before. The package variables that the row lists hold what the program's text lays. -/
import Derived.Test.YtgnggipjebemeaaDoorGLaw
import Derived.Test.YtgnggipjebemeaaDoorCards
import Derived.Test.YtgnggipjebemeaaDoorTie
import Derived.SevenTiedAt
namespace Go.Proofs.YtgnggipjebemeaaDoor
open Go.RowKit Go.Lib

theorem gcd_fits' {x y : Int} (hx : Fit x) (hy : Fit y) : Fit ((Nat.gcd x.natAbs y.natAbs : Nat) : Int) := by
  unfold Fit at *
  rw [Int.natAbs_natCast]
  generalize (10 : Nat) ^ 4096 = A at *
  by_cases h : x.natAbs = 0
  · rw [h, Nat.gcd_zero_left]; exact hy
  · have := Nat.gcd_le_left (m := x.natAbs) y.natAbs (by omega); omega
theorem gcd_pos' {x y : Int} (h : ¬ (x = 0 ∧ y = 0)) : 0 < Nat.gcd x.natAbs y.natAbs := by
  refine Nat.pos_of_ne_zero fun h0 => h ?_
  have := Nat.gcd_eq_zero_iff.1 h0
  omega
theorem fdiv_natAbs {x : Int} {g : Nat} (hg : 0 < g) (hd : g ∣ x.natAbs) : x.fmod (g : Int) = 0 ∧ (x.fdiv (g : Int)).natAbs = x.natAbs / g := by
  have hd' : (g : Int) ∣ x := Int.ofNat_dvd_left.2 hd
  obtain ⟨q, rfl⟩ := hd'
  have hg0 : (g : Int) ≠ 0 := by omega
  refine ⟨Int.mul_fmod_right _ _, ?_⟩
  rw [Int.mul_fdiv_cancel_left _ hg0, Int.natAbs_mul, Int.natAbs_natCast, Nat.mul_div_cancel_left _ hg]
theorem gcd_rest {x y : Int} {g : Nat} (hg : g = Nat.gcd x.natAbs y.natAbs) (h0 : 0 < g) :
    x.fmod (g : Int) = 0 ∧ y.fmod (g : Int) = 0 ∧ ((Nat.gcd (x.fdiv (g : Int)).natAbs (y.fdiv (g : Int)).natAbs : Nat) : Int) = 1 := by
  obtain ⟨h1, h2⟩ := fdiv_natAbs (x := x) h0 (by rw [hg]; exact Nat.gcd_dvd_left _ _)
  obtain ⟨h3, h4⟩ := fdiv_natAbs (x := y) h0 (by rw [hg]; exact Nat.gcd_dvd_right _ _)
  refine ⟨h1, h3, ?_⟩
  rw [h2, h4, Nat.gcd_div (by rw [hg]; exact Nat.gcd_dvd_left _ _) (by rw [hg]; exact Nat.gcd_dvd_right _ _), ← hg, Nat.div_self h0]
  rfl

set_option maxRecDepth 100000 in
set_option maxHeartbeats 4000000 in
theorem common_walk (w : World) (a : ByteArray) (ha : a.size ≤ maxLen) (b : ByteArray) (hb : b.size ≤ maxLen) (hL : Laid w) :
    Calls Tryd.prog 3 #[.string a, .string b] w fun e w' => e = .returned (.bool true) ∧ Below w.heap.size w w' := by
  unfold maxLen at ha hb
  have HT := Lib.hid hL.1
  have hB0 := (Below.refl w.heap.size w).alloc (Nat.le_refl _) (.cells #[.string a, .string b] 22)
  have hF := right_any (some ⟨w.heap.size, 0, none⟩) 2 2 [a, b] _ (Ss.fresh w [a, b] 22 #[.string a, .string b] rfl) (by omega) (by intro s hs; simp at hs; rcases hs with rfl | rfl <;> omega)
  have HAw := Lib.hid (fun w h => awake_any w h)
  clear hL
  cases hf : rightT [a, b]
  · rw [hf] at hF
    have HF := Lib.hid hF
    clear hF hf
    go_enter Tryd.func3, Tryd.ntmps3
    go_wp2_with (first | (go_at_call 5; with_reducible refine HF.out.mono ?_; rintro e wk ⟨rfl, hb⟩; have hB := hB0.trans (hb.mono hB0.size); clear hb) | (go_at_call 6; with_reducible refine (HAw.out _ (HT.out.below hB)).mono ?_; rintro e wk ⟨rfl, hb⟩; replace hB := hB.trans (hb.mono hB.size); clear hb))
    go_ret
    exact ⟨rfl, hB⟩
  · have hall := right_all hf
    rw [hf] at hF
    have HF := Lib.hid hF
    clear hF hf ha hb
    obtain ⟨x, rfl, hx⟩ := hall a (by simp)
    obtain ⟨y, rfl, hy⟩ := hall b (by simp)
    have fx : Fit x := fit_lt (k := 400) hx (by decide)
    have fy : Fit y := fit_lt (k := 400) hy (by decide)
    clear hall hx hy
    have g1 : ((sI x).toList == [48]) = decide (x = 0) := by rw [is_zero, sI_list]; exact decide_eq_decide.2 itoa_eq_zero
    have g2 : ((sI y).toList == [48]) = decide (y = 0) := by rw [is_zero, sI_list]; exact decide_eq_decide.2 itoa_eq_zero
    by_cases h00 : x = 0 ∧ y = 0
    · rw [decide_eq_true h00.1] at g1
      rw [decide_eq_true h00.2] at g2
      clear fx fy h00
      generalize sI x = a at *
      generalize sI y = b at *
      go_enter Tryd.func3, Tryd.ntmps3
      go_wp2_with (first | (go_at_call 5; with_reducible refine HF.out.mono ?_; rintro e wk ⟨rfl, hb⟩; have hB := hB0.trans (hb.mono hB0.size); clear hb) | (go_at_call 6; with_reducible refine (HAw.out _ (HT.out.below hB)).mono ?_; rintro e wk ⟨rfl, hb⟩; replace hB := hB.trans (hb.mono hB.size); clear hb))
      go_ret
      exact ⟨rfl, hB⟩
    · obtain ⟨g, hg⟩ : ∃ g, g = Nat.gcd x.natAbs y.natAbs := ⟨_, rfl⟩
      have hgp : 0 < g := by rw [hg]; exact gcd_pos' h00
      have fg : Fit (g : Int) := by rw [hg]; exact gcd_fits' fx fy
      have hg0 : (g : Int) ≠ 0 := by omega
      obtain ⟨e1, e2, e3⟩ := gcd_rest hg hgp
      have g3 : ((sI (g : Int)).toList == [48]) = false := by rw [is_zero, sI_list, decide_eq_false (fun h => hg0 (itoa_eq_zero.1 h))]
      have z1 : sI 1 = ⟨#[49]⟩ := by decide +kernel
      have z0 : sI 0 = ⟨#[48]⟩ := by decide +kernel
      have h1 := fun w h => gcd_fit (z := (g : Int)) fx fy fg (by rw [← hg]) w h
      have h2 := fun w h => quo_fit fx fg hg0 rfl w h
      have h3 := fun w h => quo_fit fy fg hg0 rfl w h
      have h4 := fun w h => rem_fit fx fg hg0 e1 w h
      have h5 := fun w h => rem_fit fy fg hg0 e2 w h
      have h6 := fun w h => gcd_fit (fdiv_fit fx hg0) (fdiv_fit fy hg0) (fit_lt (k := 1) (by decide) (by decide)) e3 w h
      rw [z0] at h4 h5
      rw [z1] at h6
      rcases Decidable.not_and_iff_or_not.1 h00 with hx0 | hy0
      · rw [decide_eq_false hx0] at g1
        clear e1 e2 e3 z1 z0 fx fy fg hg hgp hg0 h00 g2 hx0
        generalize sI (x.fdiv (g : Int)) = X at *
        generalize sI (y.fdiv (g : Int)) = Y at *
        generalize sI x = a at *
        generalize sI y = b at *
        generalize sI (g : Int) = c at *
        have H1 := Lib.hid h1
        have H2 := Lib.hid h2
        have H3 := Lib.hid h3
        have H4 := Lib.hid h4
        have H5 := Lib.hid h5
        have H6 := Lib.hid h6
        clear h1 h2 h3 h4 h5 h6
        go_enter Tryd.func3, Tryd.ntmps3
        go_wp2_with (first | (go_at_call 5; with_reducible refine HF.out.mono ?_; rintro e wk ⟨rfl, hb⟩; have hB := hB0.trans (hb.mono hB0.size); clear hb) | (go_at_call 6; with_reducible refine (HAw.out _ (HT.out.below hB)).mono ?_; rintro e wk ⟨rfl, hb⟩; replace hB := hB.trans (hb.mono hB.size); clear hb) | (go_at_call 7; with_reducible refine (H1.out _ (HT.out.below hB)).mono ?_; rintro e wk ⟨rfl, hb⟩; replace hB := hB.trans (hb.mono hB.size); clear hb) | (go_at_call 8; with_reducible refine (H2.out _ (HT.out.below hB)).mono ?_; rintro e wk ⟨rfl, hb⟩; replace hB := hB.trans (hb.mono hB.size); clear hb) | (go_at_call 8; with_reducible refine (H3.out _ (HT.out.below hB)).mono ?_; rintro e wk ⟨rfl, hb⟩; replace hB := hB.trans (hb.mono hB.size); clear hb) | (go_at_call 9; with_reducible refine (H4.out _ (HT.out.below hB)).mono ?_; rintro e wk ⟨rfl, hb⟩; replace hB := hB.trans (hb.mono hB.size); clear hb) | (go_at_call 9; with_reducible refine (H5.out _ (HT.out.below hB)).mono ?_; rintro e wk ⟨rfl, hb⟩; replace hB := hB.trans (hb.mono hB.size); clear hb) | (go_at_call 7; with_reducible refine (H6.out _ (HT.out.below hB)).mono ?_; rintro e wk ⟨rfl, hb⟩; replace hB := hB.trans (hb.mono hB.size); clear hb))
        go_ret
        exact ⟨rfl, hB⟩
      · rw [decide_eq_false hy0] at g2
        clear e1 e2 e3 z1 z0 fx fy fg hg hgp hg0 h00 hy0
        generalize sI (x.fdiv (g : Int)) = X at *
        generalize sI (y.fdiv (g : Int)) = Y at *
        generalize decide (x = 0) = zx at *
        generalize sI x = a at *
        generalize sI y = b at *
        generalize sI (g : Int) = c at *
        have H1 := Lib.hid h1
        have H2 := Lib.hid h2
        have H3 := Lib.hid h3
        have H4 := Lib.hid h4
        have H5 := Lib.hid h5
        have H6 := Lib.hid h6
        clear h1 h2 h3 h4 h5 h6
        cases zx
        all_goals
          go_enter Tryd.func3, Tryd.ntmps3
          go_wp2_with (first | (go_at_call 5; with_reducible refine HF.out.mono ?_; rintro e wk ⟨rfl, hb⟩; have hB := hB0.trans (hb.mono hB0.size); clear hb) | (go_at_call 6; with_reducible refine (HAw.out _ (HT.out.below hB)).mono ?_; rintro e wk ⟨rfl, hb⟩; replace hB := hB.trans (hb.mono hB.size); clear hb) | (go_at_call 7; with_reducible refine (H1.out _ (HT.out.below hB)).mono ?_; rintro e wk ⟨rfl, hb⟩; replace hB := hB.trans (hb.mono hB.size); clear hb) | (go_at_call 8; with_reducible refine (H2.out _ (HT.out.below hB)).mono ?_; rintro e wk ⟨rfl, hb⟩; replace hB := hB.trans (hb.mono hB.size); clear hb) | (go_at_call 8; with_reducible refine (H3.out _ (HT.out.below hB)).mono ?_; rintro e wk ⟨rfl, hb⟩; replace hB := hB.trans (hb.mono hB.size); clear hb) | (go_at_call 9; with_reducible refine (H4.out _ (HT.out.below hB)).mono ?_; rintro e wk ⟨rfl, hb⟩; replace hB := hB.trans (hb.mono hB.size); clear hb) | (go_at_call 9; with_reducible refine (H5.out _ (HT.out.below hB)).mono ?_; rintro e wk ⟨rfl, hb⟩; replace hB := hB.trans (hb.mono hB.size); clear hb) | (go_at_call 7; with_reducible refine (H6.out _ (HT.out.below hB)).mono ?_; rintro e wk ⟨rfl, hb⟩; replace hB := hB.trans (hb.mono hB.size); clear hb))
          go_ret
          exact ⟨rfl, hB⟩

def nines (k : Nat) : Nat := 10 ^ k - 1
theorem dval_nines (k : Nat) : dval (List.replicate k 57) = nines k := by
  unfold nines
  induction k with
  | zero => rfl
  | succ k ih =>
    have := Nat.pow_pos (n := k) (show 0 < 10 by omega)
    rw [List.replicate_succ', dval_snoc, ih, Nat.pow_succ]
    show 10 * (10 ^ k - 1) + 9 = _
    omega
theorem dec_nines {k : Nat} (hk : 0 < k) : decDigits (nines k) = List.replicate k 57 := by
  rw [← dval_nines]
  refine dec_of (fun c hc => ?_) ?_
  · rw [(List.mem_replicate.1 hc).2]; decide
  · obtain ⟨m, rfl⟩ : ∃ m, k = m + 1 := ⟨k - 1, by omega⟩
    exact ⟨57, List.replicate m 57, rfl, .inl (by decide)⟩
theorem nines_lt (k : Nat) : nines k < 10 ^ k := by
  have := Nat.pow_pos (n := k) (show 0 < 10 by omega)
  unfold nines; omega
theorem rep57 (k : Nat) : (Lib.repeatL (⟨#[57]⟩ : ByteArray).data.toList k) = List.replicate k 57 := by
  show Lib.repeatL (List.replicate 1 57) k = _
  rw [Lib.repeatL_replicate, Nat.mul_one]
theorem digits_of {n k : Nat} (h1 : 10 ^ k ≤ n) (h2 : n < 10 ^ (k + 1)) : (decDigits n).length = k + 1 := by
  have a1 := (dec_len_iff (n := n) (k := k + 1) (by omega)).2 h2
  rcases Nat.lt_or_ge (decDigits n).length (k + 1) with h | h
  · by_cases hk : k = 0
    · subst hk; have := dec_pos n; omega
    · have := (dec_len_iff (n := n) (k := k) (by omega)).1 (by omega); omega
  · omega
theorem nines_mul {i k : Nat} (hi : 0 < i) (hk : 0 < k) : (decDigits (nines i * nines k)).length = i + k := by
  obtain ⟨i, rfl⟩ : ∃ m, i = m + 1 := ⟨i - 1, by omega⟩
  obtain ⟨k, rfl⟩ : ∃ m, k = m + 1 := ⟨k - 1, by omega⟩
  have p1 := Nat.pow_pos (n := i) (show 0 < 10 by omega)
  have p2 := Nat.pow_pos (n := k) (show 0 < 10 by omega)
  have e1 : 9 * 10 ^ i ≤ nines (i + 1) := by unfold nines; rw [Nat.pow_succ]; omega
  have e2 : 9 * 10 ^ k ≤ nines (k + 1) := by unfold nines; rw [Nat.pow_succ]; omega
  have e3 := Nat.mul_le_mul e1 e2
  have e4 : 9 * 10 ^ i * (9 * 10 ^ k) = 81 * 10 ^ (i + k) := by
    rw [Nat.pow_add]
    have : 9 * 10 ^ i * (9 * 10 ^ k) = (9 * 9) * (10 ^ i * 10 ^ k) := by ac_rfl
    rw [this]
  have e5 : nines (i + 1) * nines (k + 1) < 10 ^ (i + 1) * 10 ^ (k + 1) := Nat.mul_lt_mul'' (nines_lt _) (nines_lt _)
  rw [← Nat.pow_add] at e5
  have h := digits_of (n := nines (i + 1) * nines (k + 1)) (k := i + k + 1) (by rw [Nat.pow_succ]; omega) (by rw [show i + k + 1 + 1 = i + 1 + (k + 1) by omega]; exact e5)
  rw [h]; omega
theorem nines_add' {i k : Nat} (hk : 0 < k) (hle : k ≤ i) : (decDigits (nines i + nines k)).length = i + 1 := by
  have p1 : 10 ≤ 10 ^ k := by
    obtain ⟨m, rfl⟩ : ∃ m, k = m + 1 := ⟨k - 1, by omega⟩
    have := Nat.pow_pos (n := m) (show 0 < 10 by omega)
    rw [Nat.pow_succ]; omega
  have p2 : (10 : Nat) ^ k ≤ 10 ^ i := Nat.pow_le_pow_right (by omega) hle
  refine digits_of ?_ ?_
  · unfold nines; omega
  · rw [Nat.pow_succ]; unfold nines; omega
theorem nines_add {i k : Nat} (hi : 0 < i) (hk : 0 < k) : (decDigits (nines i + nines k)).length = max i k + 1 := by
  rcases Nat.le_total k i with h | h
  · rw [nines_add' hk h, Nat.max_eq_left h]
  · rw [Nat.add_comm, nines_add' hi h, Nat.max_eq_right h]
theorem bytes_size (l : BT) : (⟨l.toArray⟩ : ByteArray).size = l.length := rfl

theorem op_nines {op : Int → Int → Int} {i k d : Nat} (hi : 0 < i) (hk : 0 < k) (hi2 : i ≤ 4096) (hk2 : k ≤ 4096) {v : Nat} (hv : op (nines i : Nat) (nines k : Nat) = (v : Int)) (hd : (decDigits v).length = d) :
    opT op (List.replicate i 57) (List.replicate k 57) = if 4096 < d then ([], 23) else (decDigits v, 0) := by
  have fi : Fit (nines i : Int) := fit_lt (b := (nines i : Int)) (k := i) (by rw [Int.natAbs_natCast]; exact nines_lt i) hi2
  have fk : Fit (nines k : Int) := fit_lt (b := (nines k : Int)) (k := k) (by rw [Int.natAbs_natCast]; exact nines_lt k) hk2
  have ei : Lib.itoa (nines i : Int) = List.replicate i 57 := by rw [itoa_pos' (by omega), Int.natAbs_natCast, dec_nines hi]
  have ek : Lib.itoa (nines k : Int) = List.replicate k 57 := by rw [itoa_pos' (by omega), Int.natAbs_natCast, dec_nines hk]
  unfold opT
  rw [if_neg (by rw [← ei, ← ek]; simpa using chk2_itoa fi fk), ← ei, ← ek, valI_itoa, valI_itoa, hv]
  unfold longT
  rw [Int.natAbs_natCast, hd]
  split
  · rfl
  · rw [itoa_pos' (by omega), Int.natAbs_natCast]

set_option maxRecDepth 100000 in
set_option maxHeartbeats 4000000 in
theorem grows_walk (w : World) (n : Int) (hn : (Lit.int .u16 n).wf = true) (m : Int) (hm : (Lit.int .u16 m).wf = true) (hL : Laid w) :
    Calls Tryd.prog 4 #[.int .u16 n, .int .u16 m] w fun e w' => e = .returned (.bool true) ∧ Below w.heap.size w w' := by
  have hn' : 0 ≤ n ∧ n ≤ 65535 := by simpa [Lit.wf, IntKind.min, IntKind.max, IntKind.bits, IntKind.signed] using hn
  have hm' : 0 ≤ m ∧ m ≤ 65535 := by simpa [Lit.wf, IntKind.min, IntKind.max, IntKind.bits, IntKind.signed] using hm
  obtain ⟨hn0, hn1⟩ := hn'
  obtain ⟨hm0, hm1⟩ := hm'
  have HT := Lib.hid hL.1
  have HAw := Lib.hid (fun w h => awake_any w h)
  have hB := Below.refl w.heap.size w
  obtain ⟨i, hi⟩ : ∃ i : Nat, (i : Int) = 1 + n % 4096 := ⟨(1 + n % 4096).toNat, by omega⟩
  obtain ⟨k, hk⟩ : ∃ k : Nat, (k : Int) = 1 + m % 4096 := ⟨(1 + m % 4096).toNat, by omega⟩
  have hi1 : 0 < i := by omega
  have hk1 : 0 < k := by omega
  have hi2 : i ≤ 4096 := by omega
  have hk2 : k ≤ 4096 := by omega
  have h1 := fun w => Tryd.strings_Repeat ⟨#[57]⟩ i w (by omega) (by show 1 * i ≤ _; omega)
  have h2 := fun w => Tryd.strings_Repeat ⟨#[57]⟩ k w (by omega) (by show 1 * k ≤ _; omega)
  rw [rep57] at h1 h2
  have h3 := fun w h => mul_any ⟨(List.replicate i 57).toArray⟩ ⟨(List.replicate k 57).toArray⟩ w (by rw [bytes_size, List.length_replicate]; omega) (by rw [bytes_size, List.length_replicate]; omega) h
  have h4 := fun w h => add_any ⟨(List.replicate i 57).toArray⟩ ⟨(List.replicate k 57).toArray⟩ w (by rw [bytes_size, List.length_replicate]; omega) (by rw [bytes_size, List.length_replicate]; omega) h
  have e3 := op_nines (op := fun x y : Int => x * y) hi1 hk1 hi2 hk2 (v := nines i * nines k) (by simp) (nines_mul hi1 hk1)
  have e4 := op_nines (op := fun x y : Int => x + y) hi1 hk1 hi2 hk2 (v := nines i + nines k) (by simp) (nines_add hi1 hk1)
  simp only [e3] at h3
  simp only [e4] at h4
  have l3 := nines_mul hi1 hk1
  have l4 := nines_add hi1 hk1
  generalize decDigits (nines i * nines k) = P at *
  generalize decDigits (nines i + nines k) = S at *
  generalize (⟨(List.replicate i 57).toArray⟩ : ByteArray) = a at *
  generalize (⟨(List.replicate k 57).toArray⟩ : ByteArray) = b at *
  have s3 : ((⟨P.toArray⟩ : ByteArray).size : Int) = (i : Int) + (k : Int) := by rw [bytes_size, l3]; omega
  have s4 : ((⟨S.toArray⟩ : ByteArray).size : Int) = max (i : Int) (k : Int) + 1 := by rw [bytes_size, l4]; omega
  have H1 := Lib.hid h1
  have H2 := Lib.hid h2
  have HI := Lib.hid hi
  have HK := Lib.hid hk
  clear h1 h2 e3 e4 l3 l4 hL hi hk
  by_cases c3 : 4096 < i + k
  · rw [if_pos c3] at h3
    have H3 := Lib.hid h3
    have c3' : (4096 : Int) < (i : Int) + (k : Int) := by omega
    clear s3
    by_cases c4 : 4096 < max i k + 1
    · rw [if_pos c4] at h4
      have c4' : (4096 : Int) < max (i : Int) (k : Int) + 1 := by omega
      have H4 := Lib.hid h4
      clear h3 h4 c3 c4 s4
      go_enter Tryd.func4, Tryd.ntmps4
      go_wp2_with fail
      simp only [← HI.out, ← HK.out]
      go_wp2_with (first | (go_at_call 10; with_reducible refine (H1.out _).mono ?_; rintro e wk ⟨rfl, hb⟩; replace hB := hB.trans (hb.mono hB.size); clear hb) | (go_at_call 10; with_reducible refine (H2.out _).mono ?_; rintro e wk ⟨rfl, hb⟩; replace hB := hB.trans (hb.mono hB.size); clear hb) | (go_at_call 6; with_reducible refine (HAw.out _ (HT.out.below hB)).mono ?_; rintro e wk ⟨rfl, hb⟩; replace hB := hB.trans (hb.mono hB.size); clear hb) | (go_at_call 11; with_reducible refine (H3.out _ (HT.out.below hB)).mono ?_; rintro e wk ⟨rfl, hb⟩; replace hB := hB.trans (hb.mono hB.size); clear hb) | (go_at_call 12; with_reducible refine (H4.out _ (HT.out.below hB)).mono ?_; rintro e wk ⟨rfl, hb⟩; replace hB := hB.trans (hb.mono hB.size); clear hb))
      go_ret
      exact ⟨rfl, hB⟩
    · rw [if_neg c4] at h4
      simp only at h4
      generalize (⟨S.toArray⟩ : ByteArray) = T at *
      have c4' : ¬ (4096 : Int) < max (i : Int) (k : Int) + 1 := by omega
      have H4 := Lib.hid h4
      clear h3 h4 c3 c4
      go_enter Tryd.func4, Tryd.ntmps4
      go_wp2_with fail
      simp only [← HI.out, ← HK.out]
      go_wp2_with (first | (go_at_call 10; with_reducible refine (H1.out _).mono ?_; rintro e wk ⟨rfl, hb⟩; replace hB := hB.trans (hb.mono hB.size); clear hb) | (go_at_call 10; with_reducible refine (H2.out _).mono ?_; rintro e wk ⟨rfl, hb⟩; replace hB := hB.trans (hb.mono hB.size); clear hb) | (go_at_call 6; with_reducible refine (HAw.out _ (HT.out.below hB)).mono ?_; rintro e wk ⟨rfl, hb⟩; replace hB := hB.trans (hb.mono hB.size); clear hb) | (go_at_call 11; with_reducible refine (H3.out _ (HT.out.below hB)).mono ?_; rintro e wk ⟨rfl, hb⟩; replace hB := hB.trans (hb.mono hB.size); clear hb) | (go_at_call 12; with_reducible refine (H4.out _ (HT.out.below hB)).mono ?_; rintro e wk ⟨rfl, hb⟩; replace hB := hB.trans (hb.mono hB.size); clear hb))
      go_ret
      exact ⟨rfl, hB⟩
  · rw [if_neg c3] at h3
    simp only at h3
    generalize (⟨P.toArray⟩ : ByteArray) = O at *
    have H3 := Lib.hid h3
    have c3' : ¬ (4096 : Int) < (i : Int) + (k : Int) := by omega
    have c4 : ¬ 4096 < max i k + 1 := by omega
    rw [if_neg c4] at h4
    simp only at h4
    generalize (⟨S.toArray⟩ : ByteArray) = T at *
    have c4' : ¬ (4096 : Int) < max (i : Int) (k : Int) + 1 := by omega
    have H4 := Lib.hid h4
    clear h3 h4 c3 c4
    go_enter Tryd.func4, Tryd.ntmps4
    go_wp2_with fail
    simp only [← HI.out, ← HK.out]
    go_wp2_with (first | (go_at_call 10; with_reducible refine (H1.out _).mono ?_; rintro e wk ⟨rfl, hb⟩; replace hB := hB.trans (hb.mono hB.size); clear hb) | (go_at_call 10; with_reducible refine (H2.out _).mono ?_; rintro e wk ⟨rfl, hb⟩; replace hB := hB.trans (hb.mono hB.size); clear hb) | (go_at_call 6; with_reducible refine (HAw.out _ (HT.out.below hB)).mono ?_; rintro e wk ⟨rfl, hb⟩; replace hB := hB.trans (hb.mono hB.size); clear hb) | (go_at_call 11; with_reducible refine (H3.out _ (HT.out.below hB)).mono ?_; rintro e wk ⟨rfl, hb⟩; replace hB := hB.trans (hb.mono hB.size); clear hb) | (go_at_call 12; with_reducible refine (H4.out _ (HT.out.below hB)).mono ?_; rintro e wk ⟨rfl, hb⟩; replace hB := hB.trans (hb.mono hB.size); clear hb))
    go_ret
    exact ⟨rfl, hB⟩
end Go.Proofs.YtgnggipjebemeaaDoor

namespace Go.Proofs.YtgnggipjebemeaaDoor.integerGrowsP
open Go.ChangeShapes Go.ChangeMaps Go.WideShapes Go.ChangeAt Go.RowKit

set_option maxRecDepth 100000 in
theorem lifted (os : Os) (started : os.Started) (H : Type) (enc : TypeId × Value → H) :
    ReturnsInHanded {} Tryd.checked os 4 .any (fun w args => (Rows.integerGrowsSpec.pre enc Tryd.prog Tryd.f4 [] false w args ∧ laidMetH Tryd.prog Rows.integerGrowsRow.laid w) ∧ sizedMet enc Tryd.prog Tryd.f4 (OpenSpec.ofChange Rows.integerGrowsSpec) false w args)
      (Rows.integerGrowsSpec.post enc Tryd.prog Tryd.f4 false true false false) := by
  refine returnsInHanded_of_change_and (C := Tryd.checked) (X := fun w _ => laidMetH Tryd.prog Rows.integerGrowsRow.laid w) (fun _ _ _ hh h => h.of_heap hh) own_ started (by kernel_rfl) Tryd.func4
    (ChangeSpec.witness_at (enc := enc) (C := Tryd.checked) (os := os) (X := fun w _ => laidMetH Tryd.prog Rows.integerGrowsRow.laid w) false (laidWorld os) #[.int .u16 0, .int .u16 0] 8 rfl (by kernel_rfl) (by kernel_rfl) (by kernel_rfl) (by kernel_rfl) (by kernel_rfl) (laid_met os _)) ?_
  intro W base args ds gs before hval0 hW _ _ hL _
  have hval : ∀ (j : Nat) t v, Tryd.f4.params[j]? = some t → args[j]? = some v → Value.okWide Tryd.prog W .any base t v := hval0
  have hW' := hW
  obtain ⟨p, q, hA0, hV, rfl, hfz, hnd⟩ := hW
  have hA : DataW.TrodAll enc Tryd.prog W 0 (fun _ => true) true Tryd.f4.params.toList args.toList ds p := hA0
  rw [Tryd.params4] at hA hval
  obtain ⟨v0, vs0, d0, ds0, p0, q0, hargs, rfl, rfl, h0, r0⟩ := trodAll_cons hA
  obtain ⟨v1, vs1, d1, ds1, p1, q1, rfl, rfl, rfl, h1, r1⟩ := trodAll_cons r0
  obtain ⟨rfl, rfl, rfl⟩ := trodAll_nil r1
  obtain rfl : args = #[v0, v1] := by cases args; simp_all
  obtain ⟨rfl, rfl⟩ := trodVars_none hV
  obtain ⟨x0, rfl, rfl, rfl, w0⟩ := open_int Tryd.underlying29 (hval 0 29 v0 rfl rfl) h0
  obtain ⟨x1, rfl, rfl, rfl, w1⟩ := open_int Tryd.underlying29 (hval 1 29 v1 rfl rfl) h1
  clear hA0 hval0
  simp only [List.append_nil] at hW'
  refine (grows_walk W x0 w0 x1 w1 (laid_of hL)).mono fun e W' ⟨he, bel⟩ => ?_
  subst he
  exact ⟨_, rfl, _, _, _, [], _, [], hW', trodAll_mk1 (shut_bool Tryd.underlying4 _), (trodAll_cons_mk (shut_int Tryd.underlying29 w0) (trodAll_cons_mk (shut_int Tryd.underlying29 w1) trodAll_mk0)), rfl, bel.frame _, fun h => by cases h⟩

theorem over : Rows.integerGrowsRow.holds Tryd.pinned (OpenSpec.ofChange Rows.integerGrowsSpec) :=
  OpenClaim.holds_of_wide 4 Tryd.f4 rfl rfl rfl rfl rfl rfl rfl ⟨rfl, rfl, rfl, rfl, rfl⟩ rfl rfl rfl rfl rfl (by kernel_rfl) Tryd.func4 (by kernel_rfl)
    (of_decide_eq_true (by kernel_rfl)) (by unfold Func.isWrapper; rw [if_neg (of_decide_eq_false (by kernel_rfl))]; exact ⟨rfl, rfl⟩)
    (fun os started H enc _ => lifted os started H enc)

theorem noStandIn : ∀ t ∈ Tryd.f4.params.toList, Tryd.prog.wantsStandIn t = false := by
  rw [Tryd.params4]
  intro t ht
  simp only [List.mem_cons, List.not_mem_nil, or_false] at ht
  rcases ht with rfl | rfl <;> kernel_rfl

theorem proved : Rows.IntegerGrowsCardSaid :=
  Claim7.holds_tied_plain_at .later [] [.data, .data, .data, .data, .sentinel, .sentinel, .pinned] true (true, "4c0b0b105ccc16c4903885f46630e3254b3ceebcf4417331549c247688a66a82") true
    over (fun _ h => by cases h) (by kernel_rfl) (fun _ h => by cases h) integerGrows_row_tie rfl ⟨rfl, rfl⟩ (by kernel_rfl) rfl
    (fun f fn hf hfn => by
      obtain rfl : f = 4 := Option.some.inj ((show Tryd.prog.funcNamed "luminaire/luminairelaw01.IntegerGrows" = some 4 by kernel_rfl).symm.trans hf) |>.symm
      obtain rfl : fn = Tryd.f4 := (Option.some.inj (Tryd.func4.symm.trans hfn)).symm
      exact ⟨by kernel_rfl, fun j t ht => noStandIn t (Array.mem_toList_iff.2 (Array.mem_of_getElem? ht))⟩)
    (by kernel_rfl)
#print axioms proved
end Go.Proofs.YtgnggipjebemeaaDoor.integerGrowsP
