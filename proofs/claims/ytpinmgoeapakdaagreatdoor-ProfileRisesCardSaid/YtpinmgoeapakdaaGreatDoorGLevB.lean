/- Lemmas and contracts of functions, joined for the claim: VRef, VByte, VSplit. -/
import Derived.Test.YtpinmgoeapakdaaGreatDoorGLevA
import Derived.Laws.BitsLemmas
namespace Go.Proofs.YtpinmgoeapakdaaGreatDoor
open Go.RowKit

def rawT (raw bits : Int) : Int × Int :=
  if bits ≠ 8 ∧ bits ≠ 16 then (0, 1) else if raw < 0 ∨ (bits = 8 ∧ 255 < raw) ∨ 65535 < raw then (0, 2) else (if bits = 8 then 257 * raw else raw, 0)
def splitT (raw : Int) : Int × Int × Int := if 0 ≤ raw ∧ raw ≤ 65535 then (raw / 256, raw % 256, 0) else (0, 0, 2)
def joinT (a b : Int) : Int × Int := if 0 ≤ a ∧ a ≤ 255 ∧ 0 ≤ b ∧ b ≤ 255 then (256 * a + b, 0) else (0, 2)
def scaleT (v b : Int) : Int × Int := if (0 ≤ v ∧ v ≤ 65535) ∧ 0 ≤ b ∧ b ≤ 65535 then ((2 * v * b + 65535) / 131070, 0) else (0, 2)
def enI (k v : Int) (b : Nat) : MapEntry := { key := .int .i64 k, val := .int .i64 v, born := b }
def stepsM : Array MapEntry := #[enI 8 257 0, enI 16 1 1]
theorem findI1 : Instr.findNow (.int .i64) (.int .i64 8) (#[] : Array MapEntry).toList 0 = some none := rfl
theorem findI2 : Instr.findNow (.int .i64) (.int .i64 16) (#[enI 8 257 0] : Array MapEntry).toList 0 = some none := by simp [Instr.findNow, Instr.sameNow, enI]
end Go.Proofs.YtpinmgoeapakdaaGreatDoor

namespace Go.Proofs.YtpinmgoeapakdaaGreatDoor
open Go.RowKit

theorem pad0_fill {l : BT} {k : Nat} (h : l.length ≤ 3) (hk : k = 3 - l.length) : l ++ List.replicate k 48 = pad0 l := by
  subst hk
  unfold pad0
  rw [List.take_append, List.take_of_length_le h]
  congr 1
  obtain h | h | h | h : l.length = 0 ∨ l.length = 1 ∨ l.length = 2 ∨ l.length = 3 := by omega
  all_goals rw [h]; rfl

structure PctW (s u d : ByteArray) : Prop where
  hu : u.data.toList = wholeT s.data.toList
  hd : d.data.toList = restT s.data.toList
theorem PctW.no1 {s u d : ByteArray} (h : PctW s u d) (hf : s.data.toList ≠ fullT) (h1 : dig3 u.data.toList = false) : pctT s.data.toList = (0, 3) := by
  rw [h.hu] at h1
  have : okP s.data.toList = false := by unfold okP; rw [h1]; rfl
  unfold pctT
  rw [if_neg hf, this, if_pos rfl]
theorem PctW.no2 {s u d : ByteArray} (h : PctW s u d) (hf : s.data.toList ≠ fullT) (h1 : dig3 d.data.toList = false) : pctT s.data.toList = (0, 3) := by
  rw [h.hd] at h1
  have : okP s.data.toList = false := by unfold okP; rw [h1, Bool.and_false]; rfl
  unfold pctT
  rw [if_neg hf, this, if_pos rfl]
theorem PctW.lead {s u d : ByteArray} (h : PctW s u d) (h0 : 0 < u.size) : (decide (1 < (wholeT s.data.toList).length) && decide ((wholeT s.data.toList).head? = some 48)) = decide (1 < u.size ∧ (u[0].toNat : Int) = 48) := by
  have e1 : (wholeT s.data.toList).length = u.size := by rw [← h.hu, bytes_len]
  have e2 : (wholeT s.data.toList).head? = some u[0] := by
    rw [← h.hu, List.head?_eq_getElem?, List.getElem?_eq_getElem (by simpa using h0)]; rfl
  have e3 : ((u[0].toNat : Int) = 48) ↔ u[0] = 48 := by
    rw [← UInt8.toNat_inj]; show _ ↔ u[0].toNat = 48; omega
  rw [e1, e2, ← Bool.decide_and, decide_eq_decide, e3, Option.some.injEq]
theorem PctW.no3 {s u d : ByteArray} (h : PctW s u d) (hf : s.data.toList ≠ fullT) (h0 : 0 < u.size) (h1 : 1 < u.size ∧ (u[0].toNat : Int) = 48) : pctT s.data.toList = (0, 3) := by
  have : okP s.data.toList = false := by unfold okP; rw [h.lead h0, decide_eq_true h1, Bool.not_true, Bool.and_false]
  unfold pctT
  rw [if_neg hf, this, if_pos rfl]
theorem PctW.yes {s u d : ByteArray} (h : PctW s u d) (hf : s.data.toList ≠ fullT) (h0 : 0 < u.size) (h1 : ¬ (1 < u.size ∧ (u[0].toNat : Int) = 48)) (a1 : dig3 u.data.toList = true) (a2 : dig3 d.data.toList = true) :
    pctT s.data.toList = if 100000 < 1000 * (dval u.data.toList : Int) + (dval (pad0 d.data.toList) : Int) then (0, 2) else (ofN (1000 * (dval u.data.toList : Int) + (dval (pad0 d.data.toList) : Int)), 0) := by
  have : okP s.data.toList = true := by unfold okP; rw [h.lead h0, decide_eq_false h1, ← h.hu, ← h.hd, a1, a2]; rfl
  have hv : valP s.data.toList = 1000 * (dval u.data.toList : Int) + (dval (pad0 d.data.toList) : Int) := by unfold valP; rw [← h.hu, ← h.hd]
  unfold pctT
  rw [if_neg hf, this, if_neg (by decide), hv]

def sizeOfS (v : Value) : Nat := match v with
  | .string R => R.size
  | _ => 0
end Go.Proofs.YtpinmgoeapakdaaGreatDoor

namespace Go.Proofs.YtpinmgoeapakdaaGreatDoor
open Go.RowKit

theorem wraps_i64s (n : Int) (h₀ : 0 ≤ n) (h₁ : n < 2 ^ 16) : IntKind.i64.wrap n = n := by rw [IntKind.wrap_i64]; omega
theorem and255 {x : Int} (h0 : 0 ≤ x) (h1 : x ≤ 65535) : bits .and .i64 x 255 = x % 256 := bits_mask .i64 16 (by decide) wraps_i64s 8 (by decide) x h0 (by omega)
theorem or256 {a b : Int} (h0 : 0 ≤ a) (h1 : a ≤ 255) (h2 : 0 ≤ b) (h3 : b ≤ 255) : bits .or .i64 (a * 256) b = a * 256 + b :=
  bits_join .i64 16 (by decide) wraps_i64s 8 (a * 256) b (by omega) (by omega) (by omega) h2 (by omega) (by omega)
theorem prod_bd {a b : Int} (h0 : 0 ≤ a) (h1 : a ≤ 65535) (h2 : 0 ≤ b) (h3 : b ≤ 65535) : 0 ≤ 2 * a * b ∧ 2 * a * b ≤ 8589672450 := by
  have e1 : 0 ≤ a * b := Int.mul_nonneg h0 h2
  have e2 : a * b ≤ 65535 * 65535 := Int.mul_le_mul h1 h3 h2 (by omega)
  rw [Int.mul_assoc]
  omega
set_option maxHeartbeats 1000000 in
theorem rlis_any (v : Int) (w : World) :
    Calls Tryz.prog 59 #[.int .i64 v] w fun e w' => e = .returned (.bool (decide (0 ≤ v ∧ v ≤ 65535))) ∧ w = w' := by
  by_cases h0 : 0 ≤ v
  · by_cases h1 : v ≤ 65535
    · rw [decide_eq_true ⟨h0, h1⟩]
      go_enter Tryz.func59, Tryz.ntmps59
      go_wp2
      go_ret
      exact ⟨rfl, rfl⟩
    · rw [decide_eq_false (fun h => h1 h.2)]
      go_enter Tryz.func59, Tryz.ntmps59
      go_wp2
      go_ret
      exact ⟨rfl, rfl⟩
  · rw [decide_eq_false (fun h => h0 h.1)]
    go_enter Tryz.func59, Tryz.ntmps59
    go_wp2
    go_ret
    exact ⟨rfl, rfl⟩
end Go.Proofs.YtpinmgoeapakdaaGreatDoor
