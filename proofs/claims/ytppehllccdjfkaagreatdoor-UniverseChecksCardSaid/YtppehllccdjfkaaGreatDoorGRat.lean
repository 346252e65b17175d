/- Lemmas and contracts of functions, joined for the claim: SBody, SNum, SRatio, SOps, SCheck. -/
import Derived.Test.YtppehllccdjfkaaGreatDoorGPlain
import Derived.Test.YtppehllccdjfkaaGreatDoorGRefA
import Derived.Laws.DeepStrings4
import Derived.Test.YtppehllccdjfkaaGreatDoorGLaw
namespace Go.Proofs.YtppehllccdjfkaaGreatDoor
open Go.RowKit

theorem top_cons {c : UInt8} {t : BT} : topT (c :: t) = if c = 47 then [] else c :: topT t := by
  unfold topT
  by_cases h : c = 47
  · subst h; rfl
  · rw [if_neg h, List.takeWhile_cons_of_pos (by simp [h])]
theorem top_len_le : ∀ (l : BT), (topT l).length ≤ l.length
  | [] => Nat.le_refl _
  | c :: t => by
    rw [top_cons]
    split
    · simp
    · have := top_len_le t; simp; omega
theorem bot_drop {l : BT} (h : slashed l = true) : botT l = l.drop ((topT l).length + 1) := by
  have := split_slash h
  conv => rhs; rw [this]
  rw [(top_slash (p := topT l) (q := botT l) (fun c hc => by
    have := takeWhile_mem hc
    simpa using this)).1]
  simp

end Go.Proofs.YtppehllccdjfkaaGreatDoor

namespace Go.Proofs.YtppehllccdjfkaaGreatDoor
open Go.RowKit

def sR (r : Rat) : ByteArray := ⟨(rT r).toArray⟩
theorem sR_list (r : Rat) : (sR r).data.toList = rT r := rfl
theorem sR_of {a : ByteArray} {r : Rat} (h : a.data.toList = rT r) : a = sR r := ByteArray.ext (Array.ext' (by rw [h, sR_list]))
theorem sR_int (z : Int) : sR (z : Rat) = sI z := sI_of (by rw [sR_list]; unfold rT; rw [Rat.den_intCast, if_pos rfl, Rat.num_intCast])
theorem SzR.pos {k : Nat} {r : Rat} (h : SzR k r) : 0 < k := by
  rcases Nat.eq_zero_or_pos k with rfl | h1
  · have h2 := h.2
    have h3 := r.den_pos
    simp at h2
    omega
  · exact h1
theorem SzR.len {k : Nat} {r : Rat} (h : SzR k r) : (sR r).size ≤ 2 * k + 2 := by
  rw [← bytes_len, sR_list]
  have h1 := itoa_len r.num
  have h2 := (dec_len_iff h.pos).2 h.1
  have h3 := (dec_len_iff h.pos).2 h.2
  unfold rT
  split
  · omega
  · simp
    omega
theorem top_bytes (r : Rat) : (⟨(topT (sR r).data.toList).toArray⟩ : ByteArray) = sI r.num := by rw [sR_list, (rT_parts r).1]; rfl
theorem bot_bytes (r : Rat) : (⟨(botT (sR r).data.toList).toArray⟩ : ByteArray) = sI (r.den : Int) := by rw [sR_list, (rT_parts r).2.1, ← nat_itoa]; rfl

theorem size_SzR {s : ByteArray} {r : Rat} {k : Nat} (h : s = sR r) (hs : s.size ≤ k) (hk : 0 < k) : SzR k r := by
  subst h
  have h1 : (rT r).length ≤ k := by rw [← sR_list, bytes_len]; exact hs
  have hn : (Lib.decDigits r.num.natAbs).length ≤ (Lib.itoa r.num).length := by
    by_cases h : r.num < 0
    · rw [itoa_neg' h]; simp
    · rw [itoa_pos' (by omega)]; exact Nat.le_refl _
  unfold rT at h1
  split at h1
  · rename_i hd
    refine ⟨(dec_len_iff hk).1 (by omega), ?_⟩
    rw [hd]
    exact Nat.one_lt_pow (by omega) (by omega)
  · simp at h1
    exact ⟨(dec_len_iff hk).1 (by omega), (dec_len_iff hk).1 (by omega)⟩
end Go.Proofs.YtppehllccdjfkaaGreatDoor

namespace Go.Proofs.YtppehllccdjfkaaGreatDoor
open Go.RowKit

theorem is_one (s : ByteArray) : (s.toList == [49]) = decide (s.data.toList = [49]) := by
  rw [ByteArray.toList_eq, Bool.eq_iff_iff]; simp
theorem one_iff (z : Int) : ((sI z).toList == [49]) = decide (z = 1) := by
  rw [is_one, sI_list, decide_eq_decide]
  exact ⟨fun h => itoa_inj (h.trans itoa_one.symm), fun h => by rw [h, itoa_one]⟩
theorem sR_whole {r : Rat} (h : r.den = 1) : sR r = sI r.num := sI_of (by rw [sR_list]; unfold rT; rw [if_pos h])
theorem sR_parts {r : Rat} (h : r.den ≠ 1) : sI r.num ++ ⟨#[47]⟩ ++ sI (r.den : Int) = sR r := sR_of (by
  unfold rT
  rw [if_neg h]
  simp [sI_list, nat_itoa])

end Go.Proofs.YtppehllccdjfkaaGreatDoor

namespace Go.Proofs.YtppehllccdjfkaaGreatDoor
open Go.RowKit

theorem SzR.mix {k m n : Nat} {a b v : Rat} (ha : SzR k a) (hb : SzR m b) (hv : SzR n v) : SzR (k + (m + k + 1 + n) + 1) (mixR a b v) := ha.add ((hb.sub ha).mul hv)
end Go.Proofs.YtppehllccdjfkaaGreatDoor

namespace Go.Proofs.YtppehllccdjfkaaGreatDoor
open Go.RowKit

end Go.Proofs.YtppehllccdjfkaaGreatDoor
