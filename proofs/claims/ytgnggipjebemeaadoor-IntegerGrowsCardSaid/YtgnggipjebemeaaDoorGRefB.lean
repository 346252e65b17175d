/- Lemmas and contracts of functions, joined for the claim: RPlus, RMinus, RTimes, RDiv, RSum, RProd, RFloor, RRest, RApi. -/
import Derived.Test.YtgnggipjebemeaaDoorGRefA
import Derived.OwnWalk
import Derived.Test.YtgnggipjebemeaaDoorGProgA
import Derived.Laws.DeepStrings4
import Derived.Test.YtgnggipjebemeaaDoorGProgC
namespace Go.Proofs.YtgnggipjebemeaaDoor
open Go.RowKit

theorem wv_getD {B : Nat} (hB : 2 ≤ B) : ∀ (l : List Nat) (i : Nat), Wd B l → l.getD i 0 = wv B l / B ^ i % B
  | [], i, _ => by simp [wv]
  | x :: l, 0, h => by
    have hx := h x (by simp)
    show x = (x + B * wv B l) / B ^ 0 % B
    rw [Nat.pow_zero, Nat.div_one, Nat.add_mul_mod_self_left, Nat.mod_eq_of_lt hx]
  | x :: l, i + 1, h => by
    have hx := h x (by simp)
    have ih := wv_getD hB l i (fun y hy => h y (by simp [hy]))
    show l.getD i 0 = (x + B * wv B l) / B ^ (i + 1) % B
    rw [ih, Nat.pow_succ, Nat.mul_comm (B ^ i) B, ← Nat.div_div_eq_div_mul, Nat.add_mul_div_left _ _ (by omega), Nat.div_eq_of_lt hx, Nat.zero_add]
theorem words_getD {B m : Nat} (hB : 2 ≤ B) {l : List Nat} (h : Wd B l) (hv : wv B l = m) (i : Nat) : (wds B m).getD i 0 = l.getD i 0 := by
  rw [wds_at hB, wv_getD hB l i h, hv]
theorem words_len {B m : Nat} (hB : 2 ≤ B) {l : List Nat} (h : Wd B l) (hv : wv B l = m) : (wds B m).length ≤ l.length :=
  wds_len_of_lt hB (by rw [← hv]; exact wv_lt h)
theorem getD_in {l : List Nat} {i : Nat} (h : i < l.length) : l.getD i 0 = l[i] := by rw [List.getD_eq_getElem?_getD, List.getElem?_eq_getElem h]; rfl
theorem getD_out {l : List Nat} {i : Nat} (h : ¬ i < l.length) : l.getD i 0 = 0 := by rw [List.getD_eq_getElem?_getD, List.getElem?_eq_none (by omega)]; rfl

theorem i64_eq {a b : Int} (h : a = b) : Value.int .i64 a = Value.int .i64 b := by rw [h]
end Go.Proofs.YtgnggipjebemeaaDoor

namespace Go.Proofs.YtgnggipjebemeaaDoor
open Go.RowKit

theorem subAt_fin {B a b k : Nat} {L : List Nat} {c : Nat} (hB : 2 ≤ B) (h : SubAt B a b k L c) (hk : (wds B a).length ≤ k) (hab : b ≤ a) : wv B L = a - b := by
  obtain ⟨h1, h2, h3, h4⟩ := h
  have hbl := wds_len_le (B := B) hB hab
  rw [take_wds hB a k hk, take_wds hB b k (by omega)] at h4
  have hlt := wv_lt h2
  rw [h1] at hlt
  obtain rfl | rfl : c = 0 ∨ c = 1 := by omega
  · simp at h4; omega
  · simp at h4; omega

end Go.Proofs.YtgnggipjebemeaaDoor

namespace Go.Proofs.YtgnggipjebemeaaDoor
open Go.RowKit

theorem made_ints (n : Nat) : (madeCells (Value.int .i64 0).cells (n * 1)).toList = nv (List.replicate n 0) := by
  rw [← nv_zeros]
  refine List.ext_getElem (by simp [madeCells]) fun i h1 h2 => ?_
  simp [madeCells, Value.cells, Nat.mod_one]
theorem mulAt_carry {B v n m i j : Nat} {O : List Nat} {c : Nat} (hB : 2 ≤ B) (h : MulAt B (wv B ((wds B m).take i) * n) v n i j O c) (hj : (wds B n).length < j) (hv : (wds B m).getD i 0 = v) : c = 0 := by
  subst hv
  obtain ⟨h1, h2, h3⟩ := h
  rw [take_wds hB n j (by omega)] at h3
  have e : wv B ((wds B m).take (i + 1)) * n = wv B ((wds B m).take i) * n + B ^ i * ((wds B m).getD i 0 * n) := by rw [takeD, Nat.add_mul, Nat.mul_assoc]
  rw [← e] at h3
  have hlt : wv B ((wds B m).take (i + 1)) < B ^ (i + 1) := by
    refine Nat.lt_of_lt_of_le (wv_lt ((wds_wd hB m).take (i + 1))) (Nat.pow_le_pow_right (by omega) ?_)
    rw [List.length_take]; omega
  have hn : n < B ^ (j - 1) := Nat.lt_of_lt_of_le (wds_lt hB n) (Nat.pow_le_pow_right (by omega) (by omega))
  have hprod : wv B ((wds B m).take (i + 1)) * n < B ^ (i + j) := by
    have : B ^ (i + j) = B ^ (i + 1) * B ^ (j - 1) := by rw [← Nat.pow_add]; congr 1; omega
    rw [this]
    exact Nat.mul_lt_mul'' hlt hn
  refine Nat.eq_zero_of_not_pos fun hc => ?_
  have : B ^ (i + j) * 1 ≤ B ^ (i + j) * c := Nat.mul_le_mul_left _ hc
  omega

end Go.Proofs.YtgnggipjebemeaaDoor

namespace Go.Proofs.YtgnggipjebemeaaDoor
open Go.RowKit

theorem dec_len_mono {m n : Nat} (h : m ≤ n) : (Lib.decDigits m).length ≤ (Lib.decDigits n).length := by
  rcases Nat.lt_or_ge (Lib.decDigits n).length (Lib.decDigits m).length with h1 | h1
  · have := dec_cmp_len h1; omega
  · exact h1
theorem dec_len_ten {m n : Nat} (h : m < 10 * n) : (Lib.decDigits m).length ≤ (Lib.decDigits n).length + 1 := by
  have h1 : n < 10 ^ (Lib.decDigits n).length := (dec_len_iff (dec_pos n)).1 (Nat.le_refl _)
  refine (dec_len_iff (by omega)).2 ?_
  rw [Nat.pow_succ]; omega

theorem rest_step {r c : Nat} (hc : c < 10) : Lib.decDigits (10 * r + c) = (if r = 0 then [] else Lib.decDigits r) ++ [dg1 c] := by
  by_cases h : r = 0
  · subst h; rw [if_pos rfl, Nat.mul_zero, Nat.zero_add, dec_small hc]; rfl
  · rw [if_neg h]; exact dec_step (by omega) hc
theorem zero_iff {R : ByteArray} {r : Nat} (h : R.data.toList = Lib.decDigits r) : (R.toList == [48]) = decide (r = 0) := by
  rw [is_zero, h, decide_eq_decide]
  constructor
  · intro h1
    have := congrArg dval h1
    rw [dec_val] at this
    rw [this]; decide
  · rintro rfl; exact dec_zero
theorem one_byte (s : ByteArray) (t : BT) (_ : s.data.toList = t) {i : Nat} (h : i < s.size) : (s.extract i (i + 1)).data.toList = [s[i]] := by
  rw [ByteArray.data_extract, Array.toList_extract, List.extract_eq_take_drop, Nat.add_sub_cancel_left]
  have hl : i < s.data.toList.length := by simpa using h
  rw [List.drop_eq_getElem_cons hl]
  rfl

end Go.Proofs.YtgnggipjebemeaaDoor

namespace Go.Proofs.YtgnggipjebemeaaDoor
open Go.RowKit

def sgd (m : Nat) (neg : Bool) : Int := if neg then -(m : Int) else (m : Int)
theorem sign_neg_or (x : Int) : (x < 0 ∧ x.sign = -1) ∨ (¬ x < 0 ∧ ∃ g : Nat, x.sign = g ∧ decide ((g : Int) < 0) = false) := by
  rcases sign_cases x with ⟨h1, h2⟩ | ⟨h1, h2⟩ | ⟨h1, h2⟩
  · exact .inl ⟨h1, h2⟩
  · exact .inr ⟨by omega, 0, by rw [h2]; rfl, by decide⟩
  · exact .inr ⟨by omega, 1, by rw [h2]; rfl, by decide⟩
theorem dec_size {s : ByteArray} {x : Int} (h : s.data.toList = Lib.itoa x) : (⟨(Lib.decDigits x.natAbs).toArray⟩ : ByteArray).size ≤ s.size := by
  show (Lib.decDigits x.natAbs).length ≤ s.size
  have h1 := body_len s.data.toList
  rw [bytes_len, h, bodyT_itoa] at h1
  omega
end Go.Proofs.YtgnggipjebemeaaDoor

namespace Go.Proofs.YtgnggipjebemeaaDoor
open Go.RowKit

theorem lt_size {a : ByteArray} {x : Int} (h : a.data.toList = Lib.itoa x) : x.natAbs < 10 ^ a.size ∧ 0 < a.size := by
  have h1 : (Lib.decDigits x.natAbs).length ≤ a.size := dec_size h
  have h2 := dec_pos x.natAbs
  exact ⟨(dec_len_iff (by omega)).1 h1, by omega⟩
theorem sgd_mul (x y : Int) : sgd (x.natAbs * y.natAbs) (decide (x < 0) != decide (y < 0)) = x * y := by
  obtain ⟨h1, h2⟩ := prod_sign x y
  rw [h1] at h2
  unfold sgd
  rw [← h1] at h2 ⊢
  cases hb : (decide (x < 0) != decide (y < 0))
  · rw [hb, Bool.false_and] at h2
    rw [if_neg (by simp)]
    have := of_decide_eq_false h2
    omega
  · rw [hb, Bool.true_and] at h2
    rw [if_pos rfl]
    by_cases h0 : (x * y).natAbs = 0
    · omega
    · rw [decide_eq_true (show 0 < (x * y).natAbs by omega)] at h2
      have := of_decide_eq_true h2
      omega
theorem mul_len {m n : Nat} : (Lib.decDigits (m * n)).length ≤ (Lib.decDigits m).length + (Lib.decDigits n).length := by
  have h1 : m < 10 ^ (Lib.decDigits m).length := (dec_len_iff (dec_pos m)).1 (Nat.le_refl _)
  have h2 : n < 10 ^ (Lib.decDigits n).length := (dec_len_iff (dec_pos n)).1 (Nat.le_refl _)
  have := dec_pos m
  refine (dec_len_iff (by omega)).2 ?_
  rw [Nat.pow_add]
  exact Nat.mul_lt_mul'' h1 h2

end Go.Proofs.YtgnggipjebemeaaDoor

namespace Go.Proofs.YtgnggipjebemeaaDoor
open Go.RowKit

theorem fdiv_short (x : Int) {y : Int} (hy : y ≠ 0) : (x.fdiv y) = if x.tmod y ≠ 0 ∧ ¬ (decide (x < 0) = decide (y < 0)) then x.tdiv y - 1 else x.tdiv y := by
  have e := Int.mul_tdiv_add_tmod x y
  have hn : (x.tmod y).natAbs < y.natAbs := by rw [Int.natAbs_tmod]; exact Nat.mod_lt _ (by omega)
  have h1 : 0 ≤ x → 0 ≤ x.tmod y := fun h => Int.tmod_nonneg y h
  have h2 : x ≤ 0 → x.tmod y ≤ 0 := fun h => by
    have := Int.tmod_nonneg y (show 0 ≤ -x by omega)
    rw [Int.neg_tmod] at this; omega
  generalize x.tdiv y = q at *
  generalize x.tmod y = r at *
  by_cases hc : r ≠ 0 ∧ ¬ (decide (x < 0) = decide (y < 0))
  · rw [if_pos hc]
    obtain ⟨hr, hs⟩ := hc
    rw [decide_eq_decide] at hs
    have hfd : FD x y (q - 1) (r + y) := by
      refine ⟨by rw [Int.mul_sub]; omega, fun h => ?_, fun h => ?_⟩
      · have := h2 (by omega); omega
      · have := h1 (by omega); omega
    exact (fd_unique hy (fd_spec x hy) hfd).1
  · rw [if_neg hc]
    have hor : r = 0 ∨ (x < 0 ↔ y < 0) := by
      by_cases hr : r = 0
      · exact .inl hr
      · refine .inr (decide_eq_decide.1 (Classical.not_not.1 fun h => hc ⟨hr, h⟩))
    have hfd : FD x y q r := by
      refine ⟨by omega, fun h => ?_, fun h => ?_⟩
      · rcases hor with h3 | h3
        · omega
        · have := h1 (by omega); omega
      · rcases hor with h3 | h3
        · omega
        · have := h2 (by omega); omega
    exact (fd_unique hy (fd_spec x hy) hfd).1

end Go.Proofs.YtgnggipjebemeaaDoor

namespace Go.Proofs.YtgnggipjebemeaaDoor
open Go.RowKit

theorem dec_len_add {m p q L : Nat} (h : m ≤ p + q) (hp : (Lib.decDigits p).length ≤ L) (hq : (Lib.decDigits q).length ≤ L) : (Lib.decDigits m).length ≤ L + 1 := by
  have hL : 0 < L := Nat.lt_of_lt_of_le (dec_pos p) hp
  have h1 := (dec_len_iff hL).1 hp
  have h2 := (dec_len_iff hL).1 hq
  refine (dec_len_iff (by omega)).2 ?_
  rw [Nat.pow_succ]
  generalize (10 : Nat) ^ L = T at *
  omega
theorem itoa_size {z : Int} {L : Nat} (h : (Lib.decDigits z.natAbs).length ≤ L) : (⟨(Lib.itoa z).toArray⟩ : ByteArray).size ≤ L + 1 := by
  show (Lib.itoa z).length ≤ _
  have := itoa_len z
  omega

def strVal (v : Value) : Nat := match v with
  | .string s => dval s.data.toList
  | _ => 0
theorem itoa_nat (n : Nat) : Lib.itoa (n : Int) = Lib.decDigits n := by rw [itoa_pos' (by omega), Int.natAbs_natCast]
theorem fmod_nat (p q : Nat) : (p : Int).fmod (q : Int) = ((p % q : Nat) : Int) := by
  rw [Int.fmod_eq_emod_of_nonneg _ (by omega)]; rfl
end Go.Proofs.YtgnggipjebemeaaDoor

namespace Go.Proofs.YtgnggipjebemeaaDoor
open Go.RowKit

theorem fit_size {a : ByteArray} {x : Int} (h : a.data.toList = Lib.itoa x) (hx : Fit x) : a.size ≤ 4097 := by
  have h1 := fit_iff.1 hx
  have h2 := itoa_len x
  rw [← bytes_len, h]
  omega
theorem take_le_val {t : BT} (i : Nat) : dval (t.take i) ≤ dval t := by
  conv => rhs; rw [← List.take_append_drop i t]
  rw [dval_append]
  have := Nat.le_mul_of_pos_right (dval (t.take i)) (Nat.pow_pos (n := (t.drop i).length) (show 0 < 10 by omega))
  omega

def intT (x : Int) : Int × Bool := if -9223372036854775808 ≤ x ∧ x ≤ 9223372036854775807 then (x, true) else (0, false)
theorem fdiv_fit {x y : Int} (hx : Fit x) (hy : y ≠ 0) : Fit (x.fdiv y) := by
  unfold Fit at *
  refine Nat.lt_of_le_of_lt ?_ hx
  by_cases hs : decide (x < 0) = decide (y < 0) ∨ x.natAbs % y.natAbs = 0
  · rw [(fd_exact hy hs).1]; exact Nat.div_le_self _ _
  · have h1 : ¬ decide (x < 0) = decide (y < 0) := fun h => hs (.inl h)
    have h2 : 0 < x.natAbs % y.natAbs := Nat.pos_of_ne_zero fun h => hs (.inr h)
    rw [(fd_round hy h1 h2).1]
    have h3 := Nat.div_add_mod x.natAbs y.natAbs
    have h4 : 2 ≤ y.natAbs := by
      rcases Nat.lt_or_ge y.natAbs 2 with h | h
      · have : y.natAbs = 1 := by omega
        rw [this, Nat.mod_one] at h2; omega
      · exact h
    have h5 : 2 * (x.natAbs / y.natAbs) ≤ y.natAbs * (x.natAbs / y.natAbs) := Nat.mul_le_mul_right _ h4
    generalize x.natAbs / y.natAbs = q at *
    generalize x.natAbs % y.natAbs = r at *
    generalize y.natAbs * q = yq at *
    omega
theorem fmod_fit {x y : Int} (hyf : Fit y) (hy : y ≠ 0) : Fit (x.fmod y) := by
  unfold Fit at *
  obtain ⟨_, h2, h3⟩ := fd_spec x hy
  generalize x.fmod y = r at *
  refine Nat.lt_of_le_of_lt ?_ hyf
  rcases Int.lt_trichotomy y 0 with h | h | h
  · have := h3 h; omega
  · exact absurd h hy
  · have := h2 h; omega
theorem longT_fit {z : Int} (h : Fit z) : longT z = (Lib.itoa z, 0) := by unfold longT; rw [if_neg (fit_iff.1 h)]

end Go.Proofs.YtgnggipjebemeaaDoor
