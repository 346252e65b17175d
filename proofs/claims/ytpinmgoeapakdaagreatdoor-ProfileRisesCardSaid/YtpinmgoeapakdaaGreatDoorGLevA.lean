/- Lemmas and contracts of functions, joined for the claim: VFold, VDig, VPct, VText, VEight, VRaw. -/
import Derived.Test.YtpinmgoeapakdaaGreatDoorGQuo
import Derived.Test.YtpinmgoeapakdaaGreatDoorGPlain
import Derived.Lib.ConvBytes
import Derived.Shelf.GgClosure.StringsIndexFuncTop
import Derived.Lib.DecodeN
import Derived.Lib.MapLaws
namespace Go.Proofs.YtpinmgoeapakdaaGreatDoor
open Go.RowKit

def foldX (v : Int) (l : BT) : Int := v * 10 ^ l.length + dval l
theorem foldX_step (v : Int) (s : BT) (k : Nat) (h : k < s.length) : foldX v (s.take (k + 1)) = 10 * foldX v (s.take k) + ((s[k].toNat - 48 : Nat) : Int) := by
  unfold foldX
  have e1 : (s.take (k + 1)).length = (s.take k).length + 1 := by simp; omega
  rw [e1, dval_take_succ s k h, Int.pow_succ]
  generalize (10 : Int) ^ (s.take k).length = P
  have : v * (P * 10) = 10 * (v * P) := by rw [← Int.mul_assoc, Int.mul_comm]
  omega
theorem foldX_bd {v : Int} {l : BT} (h0 : 0 ≤ v) (h1 : v ≤ 999) (hd : Dgs l) (hl : l.length ≤ 3) : 0 ≤ foldX v l ∧ foldX v l ≤ 999999 := by
  unfold foldX
  have h2 := dval_lt hd
  obtain h | h | h | h : l.length = 0 ∨ l.length = 1 ∨ l.length = 2 ∨ l.length = 3 := by omega
  all_goals
    rw [h] at h2 ⊢
    omega
end Go.Proofs.YtpinmgoeapakdaaGreatDoor

namespace Go.Proofs.YtpinmgoeapakdaaGreatDoor
open Go.RowKit

def pOther (x : Nat) : Bool := decide (x < 48) || decide (57 < x)
theorem get_bang (s : ByteArray) (i : Nat) (h : i < s.size) : s.get! i = s[i] := by
  show s.data[i]! = s.data[i]
  exact getElem!_pos s.data i h
theorem idx_step (s : ByteArray) (pos : Nat) (h : pos < s.size) : (isDg s[pos] = true → pOther (Utf8.decode s pos).1 = false ∧ (Utf8.decode s pos).2 = 1) ∧ (isDg s[pos] = false → pOther (Utf8.decode s pos).1 = true) := by
  rw [Lib.decode_at, get_bang s pos h]
  have hb : isDg s[pos] = decide (48 ≤ s[pos].toNat ∧ s[pos].toNat ≤ 57) := rfl
  rw [hb]
  generalize s[pos].toNat = b at *
  generalize s.size - pos = n at *
  unfold pOther
  rcases Lib.decodeN_shape n b (s.get! (pos + 1)).toNat (s.get! (pos + 2)).toNat (s.get! (pos + 3)).toNat with ⟨h1, e⟩ | ⟨h1, _, _, h2, e⟩ | ⟨h1, _, _, _, h2, _, e⟩ | ⟨h1, _, _, _, _, h2, _, e⟩ | e
  · rw [e]
    refine ⟨fun h => ?_, fun h => ?_⟩
    · rw [decide_eq_true_eq] at h
      refine ⟨?_, rfl⟩
      rw [decide_eq_false (by omega : ¬ b < 48), decide_eq_false (by omega : ¬ 57 < b)]; rfl
    · rw [decide_eq_false_iff_not] at h
      rw [Bool.or_eq_true, decide_eq_true_eq, decide_eq_true_eq]
      show b < 48 ∨ 57 < b
      omega
  all_goals
    refine ⟨fun h => ?_, fun h => ?_⟩
    · rw [decide_eq_true_eq] at h
      have : Lib.decodeN n b (s.get! (pos + 1)).toNat (s.get! (pos + 2)).toNat (s.get! (pos + 3)).toNat = (b, 1) := by unfold Lib.decodeN; rw [if_pos (by omega)]
      rw [this]
      refine ⟨?_, rfl⟩
      rw [decide_eq_false (by omega : ¬ b < 48), decide_eq_false (by omega : ¬ 57 < b)]; rfl
    · rw [decide_eq_false_iff_not] at h
      rw [Bool.or_eq_true, decide_eq_true_eq, decide_eq_true_eq]
      by_cases h8 : b < 128
      · have : Lib.decodeN n b (s.get! (pos + 1)).toNat (s.get! (pos + 2)).toNat (s.get! (pos + 3)).toNat = (b, 1) := by unfold Lib.decodeN; rw [if_pos h8]
        rw [this]
        show b < 48 ∨ 57 < b
        omega
      · right
        rw [e]
        first | (show 57 < 65533; omega) | (show 57 < _ + _; omega)
theorem idx_from (s : ByteArray) : ∀ (f pos : Nat), s.size ≤ f + pos → (Lib.idxFuncFrom pOther true s f pos < 0 ↔ ∀ i (h : i < s.size), pos ≤ i → isDg s[i] = true)
  | 0, pos, hf => by
    refine ⟨fun _ i h hp => absurd h (by omega), fun _ => ?_⟩
    show (-1 : Int) < 0
    omega
  | f + 1, pos, hf => by
    unfold Lib.idxFuncFrom
    by_cases h : pos < s.size
    · rw [if_pos h]
      obtain ⟨h1, h2⟩ := idx_step s pos h
      cases hd : isDg s[pos]
      · rw [if_pos (h2 hd)]
        refine ⟨fun h => absurd h (by omega), fun h3 => ?_⟩
        rw [h3 pos h (Nat.le_refl _)] at hd
        cases hd
      · obtain ⟨e1, e2⟩ := h1 hd
        rw [if_neg (by rw [e1]; decide), e2, idx_from s f (pos + 1) (by omega)]
        refine ⟨fun h3 i hi hp => ?_, fun h3 i hi hp => h3 i hi (by omega)⟩
        rcases Nat.lt_or_ge pos i with h4 | h4
        · exact h3 i hi h4
        · obtain rfl : i = pos := by omega
          exact hd
    · rw [if_neg h]
      exact ⟨fun _ i hi hp => absurd hi (by omega), fun _ => by omega⟩
theorem idx_dig (s : ByteArray) : decide (Lib.idxFunc pOther true s < 0) = s.data.toList.all isDg := by
  rw [Bool.eq_iff_iff, decide_eq_true_eq, List.all_eq_true]
  unfold Lib.idxFunc
  rw [idx_from s s.size 0 (by omega)]
  constructor
  · intro h c hc
    obtain ⟨i, hi, rfl⟩ := List.getElem_of_mem hc
    rw [bytes_len] at hi
    exact h i hi (Nat.zero_le _)
  · intro h i hi _
    exact h _ (List.getElem_mem (by rw [bytes_len]; exact hi))
end Go.Proofs.YtpinmgoeapakdaaGreatDoor

namespace Go.Proofs.YtpinmgoeapakdaaGreatDoor
open Go.RowKit

def wholeB (s : ByteArray) : ByteArray := ⟨(headB 46 s.data.toList).toArray⟩
def restB (s : ByteArray) : ByteArray := ⟨(tailB 46 s.data.toList).toArray⟩
theorem restT_of (s : BT) : restT s = if hasB 46 s then tailB 46 s else [48, 48, 48] := by
  unfold restT tailB hasB
  split <;> rfl
theorem foldX_zero (l : BT) : foldX 0 l = dval l := by unfold foldX; rw [Int.zero_mul, Int.zero_add]
theorem dval_bd (l : BT) (h : Dgs l) (hl : l.length ≤ 3) : dval l ≤ 999 := by
  have := dval_lt h
  have h2 : (10 : Nat) ^ l.length ≤ 10 ^ 3 := Nat.pow_le_pow_right (by omega) hl
  omega
theorem pad0_len (l : BT) : (pad0 l).length = 3 := by unfold pad0; rw [List.length_take, List.length_append]; simp
theorem pad0_dgs {l : BT} (h : Dgs l) : Dgs (pad0 l) := Dgs.take (h.append (by intro c hc; simp at hc; subst hc; decide)) 3
theorem is_full (s : ByteArray) : (s.toList == [102, 117, 108, 108]) = decide (s.data.toList = fullT) := by
  show (s.toList == [102, 117, 108, 108]) = decide (s.data.toList = [102, 117, 108, 108])
  rw [ByteArray.toList_eq, Bool.eq_iff_iff, beq_iff_eq, decide_eq_true_eq]
end Go.Proofs.YtpinmgoeapakdaaGreatDoor

namespace Go.Proofs.YtpinmgoeapakdaaGreatDoor
open Go.RowKit

def padB (d : Nat) (r : Int) : ByteArray := ⟨(padD d r).toArray⟩
theorem padD_one {q : Int} (h : 0 ≤ q) : padD 1 q = Lib.itoa q := by
  unfold padD
  have : 1 - (Lib.itoa q).length = 0 := by
    rw [itoa_pos' h]
    have := List.length_pos_iff.2 (dec_ne q.natAbs)
    omega
  rw [this]; rfl

def AtT (v : Int) (uv dv : Value) : Prop :=
  (uv = .int .i64 1000 ∧ dv = .int .i64 0) ∨ (uv = .int .i64 100 ∧ dv = .int .i64 1 ∧ hasD v 0 = false) ∨
  (uv = .int .i64 10 ∧ dv = .int .i64 2 ∧ hasD v 0 = false ∧ hasD v 1 = false) ∨ (uv = .int .i64 1 ∧ dv = .int .i64 3 ∧ hasD v 0 = false ∧ hasD v 1 = false ∧ hasD v 2 = false)
end Go.Proofs.YtpinmgoeapakdaaGreatDoor

namespace Go.Proofs.YtpinmgoeapakdaaGreatDoor
open Go.RowKit

def InL (r : Rat) : Prop := 0 ≤ r ∧ r ≤ 65535
instance (r : Rat) : Decidable (InL r) := by unfold InL; infer_instance

def errLv (s : BT) : Int := if chkR s ≠ 0 then chkR s else if InL (valR s) then 0 else 2
theorem floor_neg {r : Rat} (h : r < 0) : r.floor < 0 := by
  have := Rat.floor_le r
  have c0 : ((0 : Int) : Rat) = 0 := rfl
  have h2 : (r.floor : Rat) < ((0 : Int) : Rat) := by rw [c0]; grind
  exact cast_lt.1 h2
theorem floor_low {r : Rat} {z : Int} (h : (z : Rat) ≤ r) : z ≤ r.floor := by
  obtain ⟨_, h2⟩ := floor_bd r
  have : (z : Rat) < ((r.floor + 1 : Int) : Rat) := by
    rw [Rat.intCast_add]
    have c1 : ((1 : Int) : Rat) = 1 := rfl
    rw [c1]
    grind
  have := cast_lt.1 this
  omega
theorem inL_floor {r : Rat} : InL r ↔ (0 ≤ r.floor ∧ r.floor ≤ 65535 ∧ (r.floor = 65535 → r = (r.floor : Rat))) := by
  obtain ⟨h1, h2⟩ := floor_bd r
  have c0 : ((0 : Int) : Rat) = 0 := rfl
  have c1 : ((65535 : Int) : Rat) = 65535 := rfl
  constructor
  · rintro ⟨a, b⟩
    refine ⟨floor_low (z := 0) a, cast_le.1 (Rat.le_trans h1 b), fun h => ?_⟩
    rw [h] at h1 ⊢
    exact Rat.le_antisymm b h1
  · rintro ⟨a, b, c⟩
    refine ⟨Rat.le_trans (cast_le.2 a) h1, ?_⟩
    by_cases h : r.floor = 65535
    · rw [c h, h]; exact Rat.le_refl
    · have : ((r.floor + 1 : Int) : Rat) ≤ ((65535 : Int) : Rat) := cast_le.2 (by omega)
      rw [Rat.intCast_add, c1] at this
      exact Rat.le_trans (Rat.le_of_lt h2) this
theorem near_bd {r : Rat} (h : InL r) : 0 ≤ (r + halfR).floor ∧ (r + halfR).floor ≤ 65535 := by
  obtain ⟨a, b, c⟩ := inL_floor.1 h
  rcases near_cases r with ⟨e, _⟩ | ⟨e, h2⟩
  · rw [e]; omega
  · rw [e]
    refine ⟨by omega, ?_⟩
    by_cases h3 : r.floor = 65535
    · exfalso
      have h4 := c h3
      generalize (r.floor : Rat) = q at *
      subst h4
      grind
    · omega
theorem sR_eq_sI (r : Rat) (z : Int) : ((sR r).toList == (sI z).toList) = decide (r = (z : Rat)) := by
  rw [ByteArray.toList_eq, ByteArray.toList_eq, Bool.eq_iff_iff, beq_iff_eq, decide_eq_true_eq, ← sR_int]
  exact ⟨fun h => rT_inj h, fun h => by rw [h]⟩
theorem smallT_sI {x : Int} (h : Fit x) : smallT (sI x).data.toList = if -9223372036854775808 ≤ x ∧ x ≤ 9223372036854775807 then (x, 0) else (0, 2) := by
  unfold smallT
  rw [if_neg (by simpa using chkI_sI h), valI_sI]
theorem small_s {x : Int} (h : Fit x) (w : World) (hr : Rng w) :
    Calls Tryz.prog 51 #[.string (sI x)] w fun e w' => e = .returned (.tuple #[.int .i64 (smallT (sI x).data.toList).1, .int .i64 (smallT (sI x).data.toList).2]) ∧ Below w.heap.size w w' :=
  small_any (sI x) w (Nat.le_trans (sI_size h) (by decide)) hr
set_option maxHeartbeats 1000000 in
theorem vhalves_bad (s : ByteArray) (w : World) (hs : s.size ≤ 1000000000) (ht : Tab w) (hc : chkR s.data.toList ≠ 0) :
    Calls Tryz.prog 79 #[.string s] w fun e w' => e = .returned (.tuple #[.int .i64 0, .int .i64 0, .int .i64 (chkR s.data.toList)]) ∧ Below w.heap.size w w' := by
  have HC := Lib.hid (qfloor_bad s w hs ht hc)
  generalize chkR s.data.toList = k at *
  have g1 : (k == 0) = false := by simpa using hc
  have g2 : (k != 0) = true := by simpa using hc
  clear hc ht
  go_enter Tryz.func79, Tryz.ntmps79
  go_wp2_with (go_at_call 105; refine HC.out.mono ?_; rintro e w1 ⟨rfl, hb1⟩)
  go_ret3
  exact ⟨rfl, hb1⟩
set_option maxHeartbeats 4000000 in
theorem vhalves_out {k : Nat} {r : Rat} (hr : SzR k r) (hk : k ≤ 4000) (w : World) (ht : Tab w) (hg : Rng w) (ho : ¬ InL r) :
    Calls Tryz.prog 79 #[.string (sR r)] w fun e w' => e = .returned (.tuple #[.int .i64 0, .int .i64 0, .int .i64 2]) ∧ Below w.heap.size w w' := by
  have hB := Below.refl w.heap.size w
  have HT := Lib.hid ht
  have HRg := Lib.hid hg
  have hf := hr.fit (by omega)
  have ff0 : Fit r.floor := by have := fdiv_fit (x := r.num) (y := (r.den : Int)) hf.1 (by have := r.den_pos; omega); rw [floor_fdiv] at this; exact this
  have HFl := Lib.hid (fun w ht => qfloor_fit hf w ht)
  have HRo := Lib.hid (fun w ht => qround_fit hr w ht hk)
  have hS := fun w hg => small_s ff0 w hg
  rw [smallT_sI ff0] at hS
  rw [inL_floor] at ho
  have g1 := sR_eq_sI r r.floor
  generalize sI (r + halfR).floor = R2 at *
  by_cases hi : -9223372036854775808 ≤ r.floor ∧ r.floor ≤ 9223372036854775807
  · rw [if_pos hi] at hS
    have HS := Lib.hid hS
    by_cases h1 : r.floor < 0
    · clear hi hf ff0 hr hk ht hg ho hS g1
      generalize r.floor = f at *
      go_enter Tryz.func79, Tryz.ntmps79
      go_wp2_with (first | (go_at_call 105; with_reducible refine (HFl.out _ (HT.out.below hB)).mono ?_; rintro e wk ⟨rfl, hb⟩; replace hB := hB.trans (hb.mono hB.size); clear hb) | (go_at_call 50; with_reducible refine (HRo.out _ (HT.out.below hB)).mono ?_; rintro e wk ⟨rfl, hb⟩; replace hB := hB.trans (hb.mono hB.size); clear hb) | (go_at_call 51; with_reducible refine (HS.out _ (HRg.out.below hB)).mono ?_; rintro e wk ⟨rfl, hb⟩; replace hB := hB.trans (hb.mono hB.size); clear hb))
      go_ret3
      exact ⟨rfl, hB⟩
    · by_cases h2 : 65535 < r.floor
      · clear hi hf ff0 hr hk ht hg ho hS g1
        generalize r.floor = f at *
        go_enter Tryz.func79, Tryz.ntmps79
        go_wp2_with (first | (go_at_call 105; with_reducible refine (HFl.out _ (HT.out.below hB)).mono ?_; rintro e wk ⟨rfl, hb⟩; replace hB := hB.trans (hb.mono hB.size); clear hb) | (go_at_call 50; with_reducible refine (HRo.out _ (HT.out.below hB)).mono ?_; rintro e wk ⟨rfl, hb⟩; replace hB := hB.trans (hb.mono hB.size); clear hb) | (go_at_call 51; with_reducible refine (HS.out _ (HRg.out.below hB)).mono ?_; rintro e wk ⟨rfl, hb⟩; replace hB := hB.trans (hb.mono hB.size); clear hb))
        go_ret3
        exact ⟨rfl, hB⟩
      · have h3 : r.floor = 65535 ∧ r ≠ (r.floor : Rat) := by
          by_cases h4 : r.floor = 65535 ∧ r ≠ (r.floor : Rat)
          · exact h4
          · exfalso
            apply ho
            refine ⟨by omega, by omega, fun h5 => ?_⟩
            by_cases h6 : r = (r.floor : Rat)
            · exact h6
            · exact absurd ⟨h5, h6⟩ h4
        rw [decide_eq_false h3.2] at g1
        have g2 : ((sR r).toList != (sI r.floor).toList) = true := by rw [bne, g1]; rfl
        have h4 := h3.1
        clear hi hf ff0 hr hk ht hg ho hS h3
        generalize r.floor = f at *
        subst h4
        go_enter Tryz.func79, Tryz.ntmps79
        go_wp2_with (first | (go_at_call 105; with_reducible refine (HFl.out _ (HT.out.below hB)).mono ?_; rintro e wk ⟨rfl, hb⟩; replace hB := hB.trans (hb.mono hB.size); clear hb) | (go_at_call 50; with_reducible refine (HRo.out _ (HT.out.below hB)).mono ?_; rintro e wk ⟨rfl, hb⟩; replace hB := hB.trans (hb.mono hB.size); clear hb) | (go_at_call 51; with_reducible refine (HS.out _ (HRg.out.below hB)).mono ?_; rintro e wk ⟨rfl, hb⟩; replace hB := hB.trans (hb.mono hB.size); clear hb))
        go_ret3
        exact ⟨rfl, hB⟩
  · rw [if_neg hi] at hS
    have HS := Lib.hid hS
    clear hi hf ff0 hr hk ht hg ho hS g1
    generalize r.floor = f at *
    go_enter Tryz.func79, Tryz.ntmps79
    go_wp2_with (first | (go_at_call 105; with_reducible refine (HFl.out _ (HT.out.below hB)).mono ?_; rintro e wk ⟨rfl, hb⟩; replace hB := hB.trans (hb.mono hB.size); clear hb) | (go_at_call 50; with_reducible refine (HRo.out _ (HT.out.below hB)).mono ?_; rintro e wk ⟨rfl, hb⟩; replace hB := hB.trans (hb.mono hB.size); clear hb) | (go_at_call 51; with_reducible refine (HS.out _ (HRg.out.below hB)).mono ?_; rintro e wk ⟨rfl, hb⟩; replace hB := hB.trans (hb.mono hB.size); clear hb))
    go_ret3
    exact ⟨rfl, hB⟩
set_option maxHeartbeats 4000000 in
theorem vhalves_ok {k : Nat} {r : Rat} (hr : SzR k r) (hk : k ≤ 4000) (w : World) (ht : Tab w) (hg : Rng w) (ho : InL r) :
    Calls Tryz.prog 79 #[.string (sR r)] w fun e w' => e = .returned (.tuple #[.int .i64 r.floor, .int .i64 (r + halfR).floor, .int .i64 0]) ∧ Below w.heap.size w w' := by
  have hB := Below.refl w.heap.size w
  have HT := Lib.hid ht
  have HRg := Lib.hid hg
  have hf := hr.fit (by omega)
  have HFl := Lib.hid (fun w ht => qfloor_fit hf w ht)
  have HRo := Lib.hid (fun w ht => qround_fit hr w ht hk)
  obtain ⟨b0, b1⟩ := near_bd ho
  obtain ⟨a0, a1, a2⟩ := inL_floor.1 ho
  have fa : Fit r.floor := fit_int (by omega) (by omega)
  have fb : Fit (r + halfR).floor := fit_int (by omega) (by omega)
  have hS := fun w hg => small_s fa w hg
  have hS2 := fun w hg => small_s fb w hg
  rw [smallT_sI fa, if_pos (by omega)] at hS
  rw [smallT_sI fb, if_pos (by omega)] at hS2
  have HS := Lib.hid hS
  have HS2 := Lib.hid hS2
  have g1 := sR_eq_sI r r.floor
  by_cases h : r.floor = 65535
  · rw [decide_eq_true (a2 h)] at g1
    have g2 : ((sR r).toList != (sI r.floor).toList) = false := by rw [bne, g1]; rfl
    clear hf hr hk ht hg ho hS hS2 fa fb a0 a1 a2 b0 b1
    generalize (r + halfR).floor = g at *
    generalize r.floor = f at *
    subst h
    go_enter Tryz.func79, Tryz.ntmps79
    go_wp2_with (first | (go_at_call 105; with_reducible refine (HFl.out _ (HT.out.below hB)).mono ?_; rintro e wk ⟨rfl, hb⟩; replace hB := hB.trans (hb.mono hB.size); clear hb) | (go_at_call 50; with_reducible refine (HRo.out _ (HT.out.below hB)).mono ?_; rintro e wk ⟨rfl, hb⟩; replace hB := hB.trans (hb.mono hB.size); clear hb) | (go_at_call 51; with_reducible refine (HS.out _ (HRg.out.below hB)).mono ?_; rintro e wk ⟨rfl, hb⟩; replace hB := hB.trans (hb.mono hB.size); clear hb) | (go_at_call 51; with_reducible refine (HS2.out _ (HRg.out.below hB)).mono ?_; rintro e wk ⟨rfl, hb⟩; replace hB := hB.trans (hb.mono hB.size); clear hb))
    go_ret3
    exact ⟨rfl, hB⟩
  · have g3 : (r.floor == 65535) = false := by simpa using h
    clear hf hr hk ht hg ho hS hS2 fa fb a2 b0 b1 g1 h
    generalize (r + halfR).floor = g at *
    generalize r.floor = f at *
    go_enter Tryz.func79, Tryz.ntmps79
    go_wp2_with (first | (go_at_call 105; with_reducible refine (HFl.out _ (HT.out.below hB)).mono ?_; rintro e wk ⟨rfl, hb⟩; replace hB := hB.trans (hb.mono hB.size); clear hb) | (go_at_call 50; with_reducible refine (HRo.out _ (HT.out.below hB)).mono ?_; rintro e wk ⟨rfl, hb⟩; replace hB := hB.trans (hb.mono hB.size); clear hb) | (go_at_call 51; with_reducible refine (HS.out _ (HRg.out.below hB)).mono ?_; rintro e wk ⟨rfl, hb⟩; replace hB := hB.trans (hb.mono hB.size); clear hb) | (go_at_call 51; with_reducible refine (HS2.out _ (HRg.out.below hB)).mono ?_; rintro e wk ⟨rfl, hb⟩; replace hB := hB.trans (hb.mono hB.size); clear hb))
    go_ret3
    exact ⟨rfl, hB⟩
end Go.Proofs.YtpinmgoeapakdaaGreatDoor

namespace Go.Proofs.YtpinmgoeapakdaaGreatDoor
open Go.RowKit

def eightT (s : BT) : Int × Int := if errLv s ≠ 0 then (0, errLv s) else ((valR s * Rat.divInt 255 65535 + halfR).floor, 0)
def sixteenT (s : BT) : Int × Int := if errLv s ≠ 0 then (0, errLv s) else ((valR s + halfR).floor, 0)

theorem lev_cases (s : ByteArray) (hs : s.size ≤ 1000) : (chkR s.data.toList ≠ 0 ∧ errLv s.data.toList = chkR s.data.toList) ∨
    (∃ r, s = sR r ∧ SzR 1000 r ∧ valR s.data.toList = r ∧ chkR s.data.toList = 0 ∧ ((¬ InL r ∧ errLv s.data.toList = 2) ∨ (InL r ∧ errLv s.data.toList = 0))) := by
  unfold errLv
  by_cases hc : chkR s.data.toList = 0
  · obtain ⟨e, _⟩ := chkR_ok hc
    have hs' := sR_of e
    refine .inr ⟨valR s.data.toList, hs', size_SzR hs' hs (by omega), rfl, hc, ?_⟩
    rw [if_neg (by simpa using hc)]
    by_cases h : InL (valR s.data.toList)
    · rw [if_pos h]; exact .inr ⟨h, rfl⟩
    · rw [if_neg h]; exact .inl ⟨h, rfl⟩
  · exact .inl ⟨hc, by rw [if_pos hc]⟩
set_option maxHeartbeats 4000000 in
theorem veight_any (s : ByteArray) (w : World) (hs : s.size ≤ 1000) (ht : Tab w) (hg : Rng w) :
    Calls Tryz.prog 34 #[.string s] w fun e w' => e = .returned (.tuple #[.int .i64 (eightT s.data.toList).1, .int .i64 (eightT s.data.toList).2]) ∧ Below w.heap.size w w' := by
  rcases lev_cases s hs with ⟨hc, he⟩ | ⟨r, hr, hz, hv, hc, ⟨hi, he⟩ | ⟨hi, he⟩⟩
  · have HV := Lib.hid (show eightT s.data.toList = (0, chkR s.data.toList) by unfold eightT; rw [he, if_pos hc])
    have HC := Lib.hid (vhalves_bad s w (by omega) ht hc)
    generalize chkR s.data.toList = k at *
    have g1 : (k == 0) = false := by simpa using hc
    have g2 : (k != 0) = true := by simpa using hc
    clear hc he ht hg
    go_enter Tryz.func34, Tryz.ntmps34
    go_wp2_with (go_at_call 79; refine HC.out.mono ?_; rintro e w1 ⟨rfl, hb1⟩)
    go_ret2
    exact ⟨by rw [HV.out]; rfl, hb1⟩
  · have HV := Lib.hid (show eightT s.data.toList = (0, 2) by unfold eightT; rw [he, if_pos (by decide)])
    subst hr
    have HC := Lib.hid (vhalves_out hz (by omega) w ht hg hi)
    clear hc he ht hg hi hv hz
    go_enter Tryz.func34, Tryz.ntmps34
    go_wp2_with (go_at_call 79; refine HC.out.mono ?_; rintro e w1 ⟨rfl, hb1⟩)
    go_ret2
    exact ⟨by rw [HV.out]; rfl, hb1⟩
  · have HV := Lib.hid (show eightT s.data.toList = ((r.floor + (r + halfR).floor + 257) / 514, 0) by unfold eightT; rw [he, if_neg (by decide), hv, eight_floor])
    subst hr
    have HC := Lib.hid (vhalves_ok hz (by omega) w ht hg hi)
    obtain ⟨b0, b1⟩ := near_bd hi
    obtain ⟨a0, a1, _⟩ := inL_floor.1 hi
    generalize (r + halfR).floor = g at *
    generalize r.floor = f at *
    clear hc he ht hg hi hv hz
    go_enter Tryz.func34, Tryz.ntmps34
    go_wp2_with (go_at_call 79; refine HC.out.mono ?_; rintro e w1 ⟨rfl, hb1⟩)
    go_ret2
    exact ⟨by rw [HV.out]; rfl, hb1⟩
theorem sR_zero : (⟨#[48]⟩ : ByteArray) = sR 0 := by
  have h : ((0 : Int) : Rat) = 0 := rfl
  rw [← h, sR_int]
  unfold sI
  rw [itoa_zero]
theorem sz_zero : SzR 1 0 := by
  unfold SzR
  decide
theorem max_cast : ((65535 : Int) : Rat) = 65535 := rfl
theorem sz_max : SzR 5 ((65535 : Int) : Rat) := SzR.int (by decide) (by omega)
theorem inL_ord {r : Rat} : InL r ↔ (¬ ordR r 0 < 0 ∧ ¬ 0 < ordR r ((65535 : Int) : Rat)) := by
  rw [ordR_neg, ordR_pos, max_cast]
  exact ⟨fun h => ⟨Rat.not_lt.2 h.1, Rat.not_lt.2 h.2⟩, fun h => ⟨Rat.not_lt.1 h.1, Rat.not_lt.1 h.2⟩⟩
theorem intT_in {x : Int} (h0 : -9223372036854775808 ≤ x) (h1 : x ≤ 9223372036854775807) : intT x = (x, true) := by unfold intT; rw [if_pos ⟨h0, h1⟩]
theorem eight_bd {r : Rat} (h : InL r) : 0 ≤ (r * Rat.divInt 255 65535 + halfR).floor ∧ (r * Rat.divInt 255 65535 + halfR).floor ≤ 255 := by
  rw [eight_floor]
  obtain ⟨b0, b1⟩ := near_bd h
  obtain ⟨a0, a1, _⟩ := inL_floor.1 h
  omega
theorem over_sz : SzR 5 (Rat.divInt 255 65535) := SzR.red (by decide) (by decide) (by decide)
end Go.Proofs.YtpinmgoeapakdaaGreatDoor
