/- Lemmas and contracts of functions, joined for the claim: PrPlain5. -/
import Derived.Test.YtpinmgoeapakdaaGreatDoorGProC
import Derived.Test.YtpinmgoeapakdaaGreatDoorGProG
namespace Go.Proofs.YtpinmgoeapakdaaGreatDoor
open Go.RowKit

theorem val_straightP {r : Rat} (h : InL r) : valC straightC r = r := by
  show valC [(0, 0), (65535, 65535)] r = r
  rw [valC_two, if_pos (show r ≤ ((65535 : Int) : Rat) from h.2)]
  refine seg_unique (by decide) ?_
  show (r - ((0 : Int) : Rat)) * (((65535 : Int) : Rat) - ((0 : Int) : Rat)) = (((65535 : Int) : Rat) - ((0 : Int) : Rat)) * (r - ((0 : Int) : Rat))
  grind
theorem raw_fit {F : Fea} {L : List (List PT)} {k : Nat} {r : Rat} (ha : aloneE F L = 0) (hz : SzR k r) (hk : k ≤ 4096) : rawE F L (sR r) = 0 ∧ rawV F L (sR r) = madeR F.lo F.hi (pointsC F.cu L) r := by
  have hc : chkR (sR r).data.toList = 0 := chkR_sR (hz.fit hk)
  have e : rawE F L (sR r) = 0 := by unfold rawE; rw [if_neg (fun h => h ha), hc]
  refine ⟨e, ?_⟩
  unfold rawV
  rw [e, if_neg (fun h => h rfl), sR_list, valR_rT]
theorem bytes_fit {F : Fea} {L : List (List PT)} (ha : aloneE F L = 0) {M : Int} (h0 : F.lo ≤ M) (h1 : M ≤ F.hi) :
    bytesE F M = 0 ∧ ((F.bits = 8 ∧ bytesV F M = [M] ∧ 0 ≤ M ∧ M ≤ 255) ∨ (F.bits = 16 ∧ bytesV F M = [M / 256, M % 256] ∧ 0 ≤ M ∧ M ≤ 65535)) := by
  obtain ⟨-, hb, -, -, hho, hl0, hl1, hl2, hwh⟩ := alone_ok ha
  have hb0 : bitsE F = 0 := by
    unfold bitsE bitsV
    rw [if_neg (by omega)]
  have hp : partsE F = 0 := by
    unfold partsE
    rw [if_neg (by rintro (h | h | h | h); exact h hho; omega; omega; omega)]
    exact hwh
  have hba : bareE F = 0 := by unfold bareE; rw [hb0, if_neg (fun h => h rfl), hp]
  have e : bytesE F M = 0 := by unfold bytesE; rw [hba, if_neg (fun h => h rfl), if_neg (by omega)]
  refine ⟨e, ?_⟩
  have hV : bytesV F M = if F.bits = 8 then [M] else [M / 256, M % 256] := by unfold bytesV; rw [e, if_neg (fun h => h rfl)]
  rcases hb with h8 | h16
  · left
    rw [h8] at hl2
    have : topV 8 = 255 := rfl
    exact ⟨h8, by rw [hV, if_pos h8], by omega, by omega⟩
  · right
    rw [h16] at hl2
    have : topV 16 = 65535 := rfl
    exact ⟨h16, by rw [hV, if_neg (by omega)], by omega, by omega⟩
theorem eight_fit {k : Nat} {r : Rat} (hz : SzR k r) (h5 : 5 ≤ k) (hk : k ≤ 4096) : eightT (sR (clampR r)).data.toList = (madeR 0 255 straightC r, 0) := by
  have hc : chkR (sR (clampR r)).data.toList = 0 := chkR_sR ((clamp_sz hz h5).fit hk)
  have hv : valR (sR (clampR r)).data.toList = clampR r := by rw [sR_list, valR_rT]
  have he : errLv (sR (clampR r)).data.toList = 0 := by
    unfold errLv
    rw [hc, hv, if_neg (fun h => h rfl), if_pos (clamp_in r)]
  unfold eightT
  rw [he, if_neg (fun h => h rfl), hv]
  unfold madeR
  rw [val_straightP (clamp_in r), Int.zero_add]
  rfl

def feaW : Fea := ⟨0, 8, 0, 0, 0, 0, 0, 255, false, []⟩
theorem whole_ok {L : List (List PT)} (h : errA L = 0) : aloneE feaW L = 0 := by
  unfold aloneE
  rw [h, if_neg (fun h => h rfl)]
  have hb : bitsE feaW = 0 := by decide
  rw [hb, if_neg (fun h => h rfl)]
  unfold innerE
  rw [if_neg (by show ¬ ((0 : Int) < 0 ∨ (L.length : Int) < 0); omega)]
  decide
theorem keeps_level {F : Fea} {L : List (List PT)} {r : Rat} (ha : aloneE F L = 0) :
    (levelE F L (madeR F.lo F.hi (pointsC F.cu L) r) = 12 ∧ r.den ≠ 1) ∨
    (levelE F L (madeR F.lo F.hi (pointsC F.cu L) r) = 0 ∧ ∃ k : Int, 0 ≤ k ∧ k ≤ 65535 ∧ levelV F L (madeR F.lo F.hi (pointsC F.cu L) r) = k ∧ rawE F L (sR (k : Rat)) = 0 ∧ rawV F L (sR (k : Rat)) = madeR F.lo F.hi (pointsC F.cu L) r) := by
  obtain ⟨hA, -, hc0, hc1, -, hl0, hl1, -, -⟩ := alone_ok ha
  have hC := points_ok hA hc0 hc1
  have hin := made_in hC hl1 r
  have hrr : ¬ (madeR F.lo F.hi (pointsC F.cu L) r < F.lo ∨ F.hi < madeR F.lo F.hi (pointsC F.cu L) r) := by omega
  obtain ⟨M, hM⟩ : ∃ M, madeR F.lo F.hi (pointsC F.cu L) r = M := ⟨_, rfl⟩
  rw [hM] at hin hrr ⊢
  rcases lvlN_cases (fun v => decide (rawI F.lo F.hi (pointsC F.cu L) (v : Int) = M)) 65536 with ⟨h1, h2⟩ | ⟨k, hk, h1, h2, -⟩
  · left
    refine ⟨(lv_miss ha hrr h1).1, fun hd => ?_⟩
    have hr : r = (r.num : Rat) := Rat.ext rfl (by rw [Rat.den_intCast]; exact hd)
    obtain ⟨u, hu, hcl⟩ : ∃ u : Nat, u < 65536 ∧ clampR r = ((u : Int) : Rat) := by
      by_cases hn : r.num < 0
      · refine ⟨0, by decide, clamp_low ?_⟩
        have c0 : ((0 : Int) : Rat) = 0 := rfl
        rw [hr, ← c0]
        exact cast_lt.2 hn
      · by_cases hn2 : r.num ≤ 65535
        · refine ⟨r.num.toNat, by omega, ?_⟩
          rw [show ((r.num.toNat : Nat) : Int) = r.num by omega, ← hr]
          refine clamp_id ?_
          rw [hr]
          exact ⟨cast_le.2 (show (0 : Int) ≤ r.num by omega), cast_le.2 hn2⟩
        · refine ⟨65535, by decide, ?_⟩
          unfold clampR
          have c0 : ((0 : Int) : Rat) = 0 := rfl
          have c1 : ((65535 : Int) : Rat) = 65535 := rfl
          rw [if_neg (by rw [hr, ← c0]; exact fun h => hn (cast_lt.1 h)), if_pos (by rw [hr, ← c1]; exact cast_lt.2 (by omega))]
          rfl
    have := of_decide_eq_false (h2 u hu)
    refine this ?_
    rw [raw_made hC (by omega) (by omega)]
    unfold madeR at hM ⊢
    rw [clamp_id ⟨cast_le.2 (show (0 : Int) ≤ (u : Int) by omega), cast_le.2 (show (u : Int) ≤ 65535 by omega)⟩, ← hcl]
    exact hM
  · right
    have hit := lv_hit (k := (k : Int)) ha hrr h1 (by omega)
    refine ⟨hit.1, k, by omega, by omega, hit.2, ?_⟩
    have hz : SzR 5 (((k : Int)) : Rat) := SzR.int (by omega) (by decide)
    have hf := raw_fit ha hz (by decide)
    refine ⟨hf.1, hf.2.trans ?_⟩
    rw [← raw_made hC (by omega) (by omega)]
    exact of_decide_eq_true h2
end Go.Proofs.YtpinmgoeapakdaaGreatDoor
