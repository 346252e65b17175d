/- Plain functions on the texts of sets: what Format computes. No program in sight. -/
import Derived.Test.YteaofninjbhiaaaDoorPlainP
import Derived.Lib.ItoaNum
import Derived.Lib.Join
namespace Go.Proofs.YteaofninjbhiaaaDoor

/-- the decimal digits of a channel -/
def d3 (n : Nat) : BS := if n < 10 then [UInt8.ofNat (48 + n)] else if n < 100 then [UInt8.ofNat (48 + n / 10), UInt8.ofNat (48 + n % 10)] else [UInt8.ofNat (48 + n / 100), UInt8.ofNat (48 + n / 10 % 10), UInt8.ofNat (48 + n % 10)]
theorem dec_d3 {n : Nat} (h : n ≤ 999) : Lib.decDigits n = d3 n := by
  unfold d3
  by_cases h1 : n < 10
  · rw [Lib.decDigits, dif_pos h1, if_pos h1]
  · rw [Lib.decDigits, dif_neg h1, if_neg h1]
    by_cases h2 : n < 100
    · rw [if_pos h2, Lib.decDigits, dif_pos (by omega)]; rfl
    · rw [if_neg h2, Lib.decDigits, dif_neg (by omega), Lib.decDigits, dif_pos (by omega)]
      rw [show n / 10 / 10 = n / 100 from by omega]; rfl
theorem itoa_d3 {n : Nat} (h : n ≤ 999) : Lib.itoa (n : Int) = d3 n := by
  unfold Lib.itoa; rw [if_neg (by omega), Int.toNat_natCast, dec_d3 h]
theorem d3_length (n : Nat) : (d3 n).length ≤ 3 := by
  unfold d3; split
  · simp
  · split <;> simp
/-- the reference's way, from the last digit on -/
def dzf : Nat → Nat → BS
  | 0, _ => []
  | f + 1, n => if n = 0 then [] else dzf f (n / 10) ++ [UInt8.ofNat (48 + n % 10)]
theorem dzf_d3 {n : Nat} (h1 : 1 ≤ n) (h : n ≤ 999) : dzf 3 n = d3 n := by
  unfold d3
  by_cases h2 : n < 10
  · rw [if_pos h2]
    simp only [dzf]
    rw [if_neg (by omega), if_pos (by omega), Nat.mod_eq_of_lt h2]; rfl
  · rw [if_neg h2]
    by_cases h3 : n < 100
    · rw [if_pos h3]
      simp only [dzf]
      rw [if_neg (by omega), if_neg (by omega), if_pos (by omega), Nat.mod_eq_of_lt (show n / 10 < 10 by omega)]; rfl
    · rw [if_neg h3]
      simp only [dzf]
      rw [if_neg (by omega), if_neg (by omega), if_neg (by omega), show n / 10 / 10 % 10 = n / 100 from by omega]; rfl
/-- the text of a range -/
def item (r : Int × Int) : BS := if r.1 < r.2 then d3 r.1.toNat ++ ([32, 116, 104, 114, 117, 32] ++ d3 r.2.toNat) else d3 r.1.toNat
def sepP : BS := [32, 43, 32]
/-- the normal text of a set -/
def fmtL (l : RL) : BS := Lib.join (l.map item) sepP
theorem item_length (r : Int × Int) : (item r).length ≤ 12 := by
  have h1 := d3_length r.1.toNat
  have h2 := d3_length r.2.toNat
  unfold item
  split
  · simp; omega
  · omega
theorem join_snoc (xs : List BS) (x sep : BS) (h : xs ≠ []) : Lib.join (xs ++ [x]) sep = Lib.join xs sep ++ (sep ++ x) := by
  cases xs with
  | nil => exact absurd rfl h
  | cons y t => rw [List.cons_append, Lib.join_cons, Lib.join_cons]; simp [Lib.joinTail]
theorem fmt_first (l : RL) (h : 0 < l.length) : fmtL (l.take 1) = item l[0] := by
  cases l with
  | nil => simp at h
  | cons r t => simp [fmtL, Lib.join_one]
theorem fmt_next (l : RL) (k : Nat) (h : k < l.length) (hk : 0 < k) : fmtL (l.take (k + 1)) = fmtL (l.take k) ++ (sepP ++ item l[k]) := by
  unfold fmtL
  rw [List.take_succ_eq_append_getElem h, List.map_append]
  refine join_snoc _ _ _ ?_
  intro h0
  have := congrArg List.length h0
  rw [List.length_map, List.length_take, List.length_nil] at this
  omega
theorem fmt_length : ∀ l : RL, (fmtL l).length ≤ 15 * l.length := by
  intro l
  unfold fmtL
  cases l with
  | nil => simp [Lib.join_nil]
  | cons r t =>
    rw [List.map_cons, Lib.join_cons, List.length_append]
    have h1 := item_length r
    have h2 : (Lib.joinTail sepP (t.map item)).length ≤ 15 * t.length := by
      induction t with
      | nil => simp [Lib.joinTail]
      | cons y t ih =>
        have := item_length y
        simp [Lib.joinTail] at ih ⊢
        have e : sepP.length = 3 := rfl
        omega
    simp; omega
/-- what Format returns -/
def formatL (l : RL) : BS × Int := if chk l = 0 then (fmtL l, 0) else ([], chk l)
end Go.Proofs.YteaofninjbhiaaaDoor
