/- Lemmas and contracts of functions, joined for the claim: VRef, VByte, VSplit, VNamed, VName2, VAwake. -/
import Derived.Test.YtjnhdimllllgaaaGreatDoorGLevA
import Derived.Laws.BitsLemmas
import Derived.Test.YtjnhdimllllgaaaGreatDoorGPlain
namespace Go.Proofs.YtjnhdimllllgaaaGreatDoor
open Go.RowKit

theorem pad0_fill {l : BT} {k : Nat} (h : l.length ≤ 3) (hk : k = 3 - l.length) : l ++ List.replicate k 48 = pad0 l := by
  subst hk
  unfold pad0
  rw [List.take_append, List.take_of_length_le h]
  congr 1
  obtain h | h | h | h : l.length = 0 ∨ l.length = 1 ∨ l.length = 2 ∨ l.length = 3 := by omega
  all_goals rw [h]; rfl

structure PctW (s u d : ByteArray) : Prop where
  hu : u.data.toList = wholeT s.data.toList
  hd : d.data.toList = restT s.data.toList
theorem PctW.no1 {s u d : ByteArray} (h : PctW s u d) (hf : s.data.toList ≠ fullT) (h1 : dig3 u.data.toList = false) : pctT s.data.toList = (0, 3) := by
  rw [h.hu] at h1
  have : okP s.data.toList = false := by unfold okP; rw [h1]; rfl
  unfold pctT
  rw [if_neg hf, this, if_pos rfl]
theorem PctW.no2 {s u d : ByteArray} (h : PctW s u d) (hf : s.data.toList ≠ fullT) (h1 : dig3 d.data.toList = false) : pctT s.data.toList = (0, 3) := by
  rw [h.hd] at h1
  have : okP s.data.toList = false := by unfold okP; rw [h1, Bool.and_false]; rfl
  unfold pctT
  rw [if_neg hf, this, if_pos rfl]
theorem PctW.lead {s u d : ByteArray} (h : PctW s u d) (h0 : 0 < u.size) : (decide (1 < (wholeT s.data.toList).length) && decide ((wholeT s.data.toList).head? = some 48)) = decide (1 < u.size ∧ (u[0].toNat : Int) = 48) := by
  have e1 : (wholeT s.data.toList).length = u.size := by rw [← h.hu, bytes_len]
  have e2 : (wholeT s.data.toList).head? = some u[0] := by
    rw [← h.hu, List.head?_eq_getElem?, List.getElem?_eq_getElem (by simpa using h0)]; rfl
  have e3 : ((u[0].toNat : Int) = 48) ↔ u[0] = 48 := by
    rw [← UInt8.toNat_inj]; show _ ↔ u[0].toNat = 48; omega
  rw [e1, e2, ← Bool.decide_and, decide_eq_decide, e3, Option.some.injEq]
theorem PctW.no3 {s u d : ByteArray} (h : PctW s u d) (hf : s.data.toList ≠ fullT) (h0 : 0 < u.size) (h1 : 1 < u.size ∧ (u[0].toNat : Int) = 48) : pctT s.data.toList = (0, 3) := by
  have : okP s.data.toList = false := by unfold okP; rw [h.lead h0, decide_eq_true h1, Bool.not_true, Bool.and_false]
  unfold pctT
  rw [if_neg hf, this, if_pos rfl]
theorem PctW.yes {s u d : ByteArray} (h : PctW s u d) (hf : s.data.toList ≠ fullT) (h0 : 0 < u.size) (h1 : ¬ (1 < u.size ∧ (u[0].toNat : Int) = 48)) (a1 : dig3 u.data.toList = true) (a2 : dig3 d.data.toList = true) :
    pctT s.data.toList = if 100000 < 1000 * (dval u.data.toList : Int) + (dval (pad0 d.data.toList) : Int) then (0, 2) else (ofN (1000 * (dval u.data.toList : Int) + (dval (pad0 d.data.toList) : Int)), 0) := by
  have : okP s.data.toList = true := by unfold okP; rw [h.lead h0, decide_eq_false h1, ← h.hu, ← h.hd, a1, a2]; rfl
  have hv : valP s.data.toList = 1000 * (dval u.data.toList : Int) + (dval (pad0 d.data.toList) : Int) := by unfold valP; rw [← h.hu, ← h.hd]
  unfold pctT
  rw [if_neg hf, this, if_neg (by decide), hv]

def sizeOfS (v : Value) : Nat := match v with
  | .string R => R.size
  | _ => 0
end Go.Proofs.YtjnhdimllllgaaaGreatDoor

namespace Go.Proofs.YtjnhdimllllgaaaGreatDoor
open Go.RowKit

def rawT (raw bits : Int) : Int × Int :=
  if bits ≠ 8 ∧ bits ≠ 16 then (0, 1) else if raw < 0 ∨ (bits = 8 ∧ 255 < raw) ∨ 65535 < raw then (0, 2) else (if bits = 8 then 257 * raw else raw, 0)
def splitT (raw : Int) : Int × Int × Int := if 0 ≤ raw ∧ raw ≤ 65535 then (raw / 256, raw % 256, 0) else (0, 0, 2)
def joinT (a b : Int) : Int × Int := if 0 ≤ a ∧ a ≤ 255 ∧ 0 ≤ b ∧ b ≤ 255 then (256 * a + b, 0) else (0, 2)
def scaleT (v b : Int) : Int × Int := if (0 ≤ v ∧ v ≤ 65535) ∧ 0 ≤ b ∧ b ≤ 65535 then ((2 * v * b + 65535) / 131070, 0) else (0, 2)
def enI (k v : Int) (b : Nat) : MapEntry := { key := .int .i64 k, val := .int .i64 v, born := b }
def stepsM : Array MapEntry := #[enI 8 257 0, enI 16 1 1]
theorem findI1 : Instr.findNow (.int .i64) (.int .i64 8) (#[] : Array MapEntry).toList 0 = some none := rfl
theorem findI2 : Instr.findNow (.int .i64) (.int .i64 16) (#[enI 8 257 0] : Array MapEntry).toList 0 = some none := by simp [Instr.findNow, Instr.sameNow, enI]
set_option maxRecDepth 100000 in
set_option maxHeartbeats 4000000 in
theorem vOf_step (raw bits st : Int) (w : World) (R : Int × Int)
    (hl : ∀ (W : World) (M : Nat), W.heap[M]? = some (.map stepsM 2) → (Instr.lookup 125 (.map (some M)) (.int .i64 bits) false).run Tryz.prog W = .ok (.int .i64 st) W)
    (hcase : (st = 0 ∧ R = (0, 1)) ∨ (st = 257 ∧ ((raw < 0 ∨ 255 < raw) ∧ R = (0, 2) ∨ (0 ≤ raw ∧ raw ≤ 255) ∧ R = (raw * 257, 0))) ∨ (st = 1 ∧ ((raw < 0 ∨ 65535 < raw) ∧ R = (0, 2) ∨ (0 ≤ raw ∧ raw ≤ 65535) ∧ R = (raw, 0)))) :
    Calls Tryz.prog 57 #[.int .i64 raw, .int .i64 bits] w fun e w' => e = .returned (.tuple #[.int .i64 R.1, .int .i64 R.2]) ∧ Below w.heap.size w w' := by
  have hmm : ∀ w, (Instr.makeMap 125 none).run Tryz.prog w = .ok (.map (some w.heap.size)) (w.alloc (.map #[] 0)) := fun w => run_makeMap _ w
  have HH := Lib.hid (heap_push w (.map #[] 0))
  have b1 : Below w.heap.size w (w.alloc (.map #[] 0)) := (Below.refl _ w).alloc (Nat.le_refl _) _
  have HL := Lib.hid hl
  have hfin : ∀ W3, (w.alloc (.map #[] 0)).grownBy W3 (some w.heap.size) → Below w.heap.size w W3 := fun W3 g => b1.grown g (by simp) (fun k e => by injection e with e; omega)
  have HFi := Lib.hid hfin
  clear b1 hl hfin
  have tok1 : True := trivial
  rcases hcase with ⟨rfl, rfl⟩ | ⟨rfl, ⟨hr, rfl⟩ | ⟨⟨r0, r1⟩, rfl⟩⟩ | ⟨rfl, ⟨hr, rfl⟩ | ⟨⟨r0, r1⟩, rfl⟩⟩
  · go_enter Tryz.func57, Tryz.ntmps57
    go_wp2_with (first | (have _t := tok1; refine wpList_insert_lit _ rfl _ _ _ 125 rfl 3 3 (.int .i64) Tryz.underlying125 Tryz.underlying3 w.heap.size 0 #[] _ _ rfl rfl rfl rfl HH.out findI1 ?_; intro W2 h g; have HH2 := Lib.hid (show W2.heap[w.heap.size]? = some (.map #[enI 8 257 0] 1) from h); have HG2 := Lib.hid g; clear h g tok1 _t; have tok2 : True := trivial) | (have _t := tok2; refine wpList_insert_lit _ rfl _ _ _ 125 rfl 3 3 (.int .i64) Tryz.underlying125 Tryz.underlying3 w.heap.size 1 #[enI 8 257 0] _ _ rfl rfl rfl rfl HH2.out findI2 ?_; intro W3 h g; have kl := HL.out W3 w.heap.size h; have HG3 := Lib.hid g; clear h g tok2 _t))
    go_ret2
    exact ⟨rfl, HFi.out _ (HG2.out.trans HG3.out)⟩
  · rcases hr with hr | hr
    · go_enter Tryz.func57, Tryz.ntmps57
      go_wp2_with (first | (have _t := tok1; refine wpList_insert_lit _ rfl _ _ _ 125 rfl 3 3 (.int .i64) Tryz.underlying125 Tryz.underlying3 w.heap.size 0 #[] _ _ rfl rfl rfl rfl HH.out findI1 ?_; intro W2 h g; have HH2 := Lib.hid (show W2.heap[w.heap.size]? = some (.map #[enI 8 257 0] 1) from h); have HG2 := Lib.hid g; clear h g tok1 _t; have tok2 : True := trivial) | (have _t := tok2; refine wpList_insert_lit _ rfl _ _ _ 125 rfl 3 3 (.int .i64) Tryz.underlying125 Tryz.underlying3 w.heap.size 1 #[enI 8 257 0] _ _ rfl rfl rfl rfl HH2.out findI2 ?_; intro W3 h g; have kl := HL.out W3 w.heap.size h; have HG3 := Lib.hid g; clear h g tok2 _t))
      go_ret2
      exact ⟨rfl, HFi.out _ (HG2.out.trans HG3.out)⟩
    · have hr' : ¬ raw < 0 := by omega
      go_enter Tryz.func57, Tryz.ntmps57
      go_wp2_with (first | (have _t := tok1; refine wpList_insert_lit _ rfl _ _ _ 125 rfl 3 3 (.int .i64) Tryz.underlying125 Tryz.underlying3 w.heap.size 0 #[] _ _ rfl rfl rfl rfl HH.out findI1 ?_; intro W2 h g; have HH2 := Lib.hid (show W2.heap[w.heap.size]? = some (.map #[enI 8 257 0] 1) from h); have HG2 := Lib.hid g; clear h g tok1 _t; have tok2 : True := trivial) | (have _t := tok2; refine wpList_insert_lit _ rfl _ _ _ 125 rfl 3 3 (.int .i64) Tryz.underlying125 Tryz.underlying3 w.heap.size 1 #[enI 8 257 0] _ _ rfl rfl rfl rfl HH2.out findI2 ?_; intro W3 h g; have kl := HL.out W3 w.heap.size h; have HG3 := Lib.hid g; clear h g tok2 _t))
      go_ret2
      exact ⟨rfl, HFi.out _ (HG2.out.trans HG3.out)⟩
  · go_enter Tryz.func57, Tryz.ntmps57
    go_wp2_with (first | (have _t := tok1; refine wpList_insert_lit _ rfl _ _ _ 125 rfl 3 3 (.int .i64) Tryz.underlying125 Tryz.underlying3 w.heap.size 0 #[] _ _ rfl rfl rfl rfl HH.out findI1 ?_; intro W2 h g; have HH2 := Lib.hid (show W2.heap[w.heap.size]? = some (.map #[enI 8 257 0] 1) from h); have HG2 := Lib.hid g; clear h g tok1 _t; have tok2 : True := trivial) | (have _t := tok2; refine wpList_insert_lit _ rfl _ _ _ 125 rfl 3 3 (.int .i64) Tryz.underlying125 Tryz.underlying3 w.heap.size 1 #[enI 8 257 0] _ _ rfl rfl rfl rfl HH2.out findI2 ?_; intro W3 h g; have kl := HL.out W3 w.heap.size h; have HG3 := Lib.hid g; clear h g tok2 _t))
    go_ret2
    exact ⟨rfl, HFi.out _ (HG2.out.trans HG3.out)⟩
  · rcases hr with hr | hr
    · go_enter Tryz.func57, Tryz.ntmps57
      go_wp2_with (first | (have _t := tok1; refine wpList_insert_lit _ rfl _ _ _ 125 rfl 3 3 (.int .i64) Tryz.underlying125 Tryz.underlying3 w.heap.size 0 #[] _ _ rfl rfl rfl rfl HH.out findI1 ?_; intro W2 h g; have HH2 := Lib.hid (show W2.heap[w.heap.size]? = some (.map #[enI 8 257 0] 1) from h); have HG2 := Lib.hid g; clear h g tok1 _t; have tok2 : True := trivial) | (have _t := tok2; refine wpList_insert_lit _ rfl _ _ _ 125 rfl 3 3 (.int .i64) Tryz.underlying125 Tryz.underlying3 w.heap.size 1 #[enI 8 257 0] _ _ rfl rfl rfl rfl HH2.out findI2 ?_; intro W3 h g; have kl := HL.out W3 w.heap.size h; have HG3 := Lib.hid g; clear h g tok2 _t))
      go_ret2
      exact ⟨rfl, HFi.out _ (HG2.out.trans HG3.out)⟩
    · have hr' : ¬ raw < 0 := by omega
      go_enter Tryz.func57, Tryz.ntmps57
      go_wp2_with (first | (have _t := tok1; refine wpList_insert_lit _ rfl _ _ _ 125 rfl 3 3 (.int .i64) Tryz.underlying125 Tryz.underlying3 w.heap.size 0 #[] _ _ rfl rfl rfl rfl HH.out findI1 ?_; intro W2 h g; have HH2 := Lib.hid (show W2.heap[w.heap.size]? = some (.map #[enI 8 257 0] 1) from h); have HG2 := Lib.hid g; clear h g tok1 _t; have tok2 : True := trivial) | (have _t := tok2; refine wpList_insert_lit _ rfl _ _ _ 125 rfl 3 3 (.int .i64) Tryz.underlying125 Tryz.underlying3 w.heap.size 1 #[enI 8 257 0] _ _ rfl rfl rfl rfl HH2.out findI2 ?_; intro W3 h g; have kl := HL.out W3 w.heap.size h; have HG3 := Lib.hid g; clear h g tok2 _t))
      go_ret2
      exact ⟨rfl, HFi.out _ (HG2.out.trans HG3.out)⟩
  · go_enter Tryz.func57, Tryz.ntmps57
    go_wp2_with (first | (have _t := tok1; refine wpList_insert_lit _ rfl _ _ _ 125 rfl 3 3 (.int .i64) Tryz.underlying125 Tryz.underlying3 w.heap.size 0 #[] _ _ rfl rfl rfl rfl HH.out findI1 ?_; intro W2 h g; have HH2 := Lib.hid (show W2.heap[w.heap.size]? = some (.map #[enI 8 257 0] 1) from h); have HG2 := Lib.hid g; clear h g tok1 _t; have tok2 : True := trivial) | (have _t := tok2; refine wpList_insert_lit _ rfl _ _ _ 125 rfl 3 3 (.int .i64) Tryz.underlying125 Tryz.underlying3 w.heap.size 1 #[enI 8 257 0] _ _ rfl rfl rfl rfl HH2.out findI2 ?_; intro W3 h g; have kl := HL.out W3 w.heap.size h; have HG3 := Lib.hid g; clear h g tok2 _t))
    go_ret2
    exact ⟨rfl, HFi.out _ (HG2.out.trans HG3.out)⟩
theorem vOf_any (raw bits : Int) (w : World) :
    Calls Tryz.prog 57 #[.int .i64 raw, .int .i64 bits] w fun e w' => e = .returned (.tuple #[.int .i64 (rawT raw bits).1, .int .i64 (rawT raw bits).2]) ∧ Below w.heap.size w w' := by
  have L := fun (W : World) (M : Nat) (h : W.heap[M]? = some (.map stepsM 2)) => fun key val i hi hf => run_look (P := Tryz.prog) (w := W) 125 3 3 (.int .i64) M 2 i stepsM key val Tryz.underlying125 Tryz.underlying3 hi h hf
  have N := fun (W : World) (M : Nat) (h : W.heap[M]? = some (.map stepsM 2)) => fun key hi hf => run_miss (P := Tryz.prog) (w := W) 125 3 3 (.int .i64) M 2 stepsM key (.int .i64 0) Tryz.underlying125 Tryz.underlying3 hi h hf (by kernel_rfl)
  by_cases h8 : bits = 8
  · subst h8
    refine vOf_step raw 8 257 w _ (fun W M h => L W M h _ _ 0 rfl (by simp [stepsM, Instr.findNow, Instr.sameNow, enI])) (.inr (.inl ⟨rfl, ?_⟩))
    unfold rawT
    by_cases hr : raw < 0 ∨ 255 < raw
    · refine .inl ⟨hr, ?_⟩
      rw [if_neg (by omega), if_pos (by omega)]
    · refine .inr ⟨by omega, ?_⟩
      rw [if_neg (by omega), if_neg (by omega), if_pos rfl, Int.mul_comm]
  by_cases h16 : bits = 16
  · subst h16
    refine vOf_step raw 16 1 w _ (fun W M h => L W M h _ _ 1 rfl (by simp [stepsM, Instr.findNow, Instr.sameNow, enI])) (.inr (.inr ⟨rfl, ?_⟩))
    unfold rawT
    by_cases hr : raw < 0 ∨ 65535 < raw
    · refine .inl ⟨hr, ?_⟩
      rw [if_neg (by omega), if_pos (by omega)]
    · refine .inr ⟨by omega, ?_⟩
      rw [if_neg (by omega), if_neg (by omega), if_neg (by omega)]
  · refine vOf_step raw bits 0 w _ (fun W M h => N W M h _ rfl (by simp [stepsM, Instr.findNow, Instr.sameNow, enI, show (bits == 8) = false by simpa using h8, show (bits == 16) = false by simpa using h16])) (.inl ⟨rfl, ?_⟩)
    unfold rawT
    rw [if_pos ⟨h8, h16⟩]
end Go.Proofs.YtjnhdimllllgaaaGreatDoor

namespace Go.Proofs.YtjnhdimllllgaaaGreatDoor
open Go.RowKit

theorem wraps_i64s (n : Int) (h₀ : 0 ≤ n) (h₁ : n < 2 ^ 16) : IntKind.i64.wrap n = n := by rw [IntKind.wrap_i64]; omega
theorem and255 {x : Int} (h0 : 0 ≤ x) (h1 : x ≤ 65535) : bits .and .i64 x 255 = x % 256 := bits_mask .i64 16 (by decide) wraps_i64s 8 (by decide) x h0 (by omega)
theorem or256 {a b : Int} (h0 : 0 ≤ a) (h1 : a ≤ 255) (h2 : 0 ≤ b) (h3 : b ≤ 255) : bits .or .i64 (a * 256) b = a * 256 + b :=
  bits_join .i64 16 (by decide) wraps_i64s 8 (a * 256) b (by omega) (by omega) (by omega) h2 (by omega) (by omega)
set_option maxHeartbeats 1000000 in
theorem vsplit_any (raw : Int) (w : World) :
    Calls Tryz.prog 55 #[.int .i64 raw] w fun e w' => e = .returned (.tuple #[.int .i64 (splitT raw).1, .int .i64 (splitT raw).2.1, .int .i64 (splitT raw).2.2]) ∧ w = w' := by
  have hC := fun w => vcheck_any raw w
  by_cases h : 0 ≤ raw ∧ raw ≤ 65535
  · have HV := Lib.hid (show splitT raw = (raw / 256, raw % 256, 0) by unfold splitT; rw [if_pos h])
    simp only [if_pos h] at hC
    have HC := Lib.hid hC
    obtain ⟨h0, h1⟩ := h
    have hb := and255 h0 h1
    clear hC
    go_enter Tryz.func55, Tryz.ntmps55
    go_wp2_with (go_at_call 81; refine (HC.out _).mono ?_; rintro e w1 ⟨rfl, rfl⟩)
    go_ret3
    exact ⟨by rw [HV.out]; rfl, rfl⟩
  · have HV := Lib.hid (show splitT raw = (0, 0, 2) by unfold splitT; rw [if_neg h])
    simp only [if_neg h] at hC
    have HC := Lib.hid hC
    clear hC h
    go_enter Tryz.func55, Tryz.ntmps55
    go_wp2_with (go_at_call 81; refine (HC.out _).mono ?_; rintro e w1 ⟨rfl, rfl⟩)
    go_ret3
    exact ⟨by rw [HV.out]; rfl, rfl⟩
set_option maxHeartbeats 1000000 in
theorem vjoin_any (a b : Int) (w : World) :
    Calls Tryz.prog 56 #[.int .i64 a, .int .i64 b] w fun e w' => e = .returned (.tuple #[.int .i64 (joinT a b).1, .int .i64 (joinT a b).2]) ∧ w = w' := by
  by_cases h0 : a < 0
  · have HV := Lib.hid (show joinT a b = (0, 2) by unfold joinT; rw [if_neg (by omega)])
    go_enter Tryz.func56, Tryz.ntmps56
    go_wp2
    go_ret2
    exact ⟨by rw [HV.out]; rfl, rfl⟩
  by_cases h1 : 255 < a
  · have HV := Lib.hid (show joinT a b = (0, 2) by unfold joinT; rw [if_neg (by omega)])
    go_enter Tryz.func56, Tryz.ntmps56
    go_wp2
    go_ret2
    exact ⟨by rw [HV.out]; rfl, rfl⟩
  by_cases h2 : b < 0
  · have HV := Lib.hid (show joinT a b = (0, 2) by unfold joinT; rw [if_neg (by omega)])
    go_enter Tryz.func56, Tryz.ntmps56
    go_wp2
    go_ret2
    exact ⟨by rw [HV.out]; rfl, rfl⟩
  by_cases h3 : 255 < b
  · have HV := Lib.hid (show joinT a b = (0, 2) by unfold joinT; rw [if_neg (by omega)])
    go_enter Tryz.func56, Tryz.ntmps56
    go_wp2
    go_ret2
    exact ⟨by rw [HV.out]; rfl, rfl⟩
  have a0 : 0 ≤ a := by omega
  have a1 : a ≤ 255 := by omega
  have b0 : 0 ≤ b := by omega
  have b1 : b ≤ 255 := by omega
  have HV := Lib.hid (show joinT a b = (a * 256 + b, 0) by unfold joinT; rw [if_pos ⟨a0, a1, b0, b1⟩]; congr 1; omega)
  have hb := or256 a0 a1 b0 b1
  clear h0 h1 h2 h3
  go_enter Tryz.func56, Tryz.ntmps56
  go_wp2
  go_ret2
  exact ⟨by rw [HV.out]; rfl, rfl⟩
theorem prod_bd {a b : Int} (h0 : 0 ≤ a) (h1 : a ≤ 65535) (h2 : 0 ≤ b) (h3 : b ≤ 65535) : 0 ≤ 2 * a * b ∧ 2 * a * b ≤ 8589672450 := by
  have e1 : 0 ≤ a * b := Int.mul_nonneg h0 h2
  have e2 : a * b ≤ 65535 * 65535 := Int.mul_le_mul h1 h3 h2 (by omega)
  rw [Int.mul_assoc]
  omega
end Go.Proofs.YtjnhdimllllgaaaGreatDoor

namespace Go.Proofs.YtjnhdimllllgaaaGreatDoor
open Go.RowKit

theorem head_get (c : UInt8) : ∀ s : BT, hasB c s = true → s[(headB c s).length]? = some c ∧ ∀ j, j < (headB c s).length → s[j]? ≠ some c
  | [], h => by cases h
  | b :: t, h => by
    by_cases hb : b = c
    · subst hb
      have : headB b (b :: t) = [] := by unfold headB; simp
      rw [this]
      exact ⟨rfl, fun j hj => by simp at hj⟩
    · have e : headB c (b :: t) = b :: headB c t := List.takeWhile_cons_of_pos (by simpa using hb)
      have ht : hasB c t = true := by
        unfold hasB at h ⊢
        rw [List.any_cons, show (b == c) = false by simpa using hb, Bool.false_or] at h
        exact h
      obtain ⟨h1, h2⟩ := head_get c t ht
      rw [e]
      refine ⟨h1, fun j hj => ?_⟩
      cases j with
      | zero => intro h3; injection h3 with h3; exact hb h3
      | succ j => exact h2 j (by simpa using hj)
theorem get_some (s : ByteArray) (i : Nat) (h : i < s.size) : s.data.toList[i]? = some s[i] := by
  rw [List.getElem?_eq_getElem (by rw [bytes_len]; exact h)]; rfl
theorem mult_of {x U : Int} (h : x % U = 0) : x = x / U * U := by have := Int.mul_ediv_add_emod x U; rw [h, Int.mul_comm] at this; omega

theorem named_0 {v : Int} (h0 : 0 ≤ v) (h1 : v ≤ 65534) (hh : hasD v 0 = true) (hd : decsOf v = 0) :
    ∃ n : Int, 0 ≤ n ∧ n ≤ 100000 ∧ n % 1000 = 0 ∧ ofN n = v ∧ (∀ x : Int, 0 ≤ x → x < n → x % 1000 = 0 → ofN x ≠ v) ∧
    namedT v = Lib.itoa (n / 1000) ++ [] := by
  obtain ⟨k0, k1, k2, k3⟩ := kOf_spec 0 h0 (by omega : v ≤ 65535)
  have e1 : unitD 0 = 1000 := rfl
  have e2 : partD 0 = 1 := rfl
  unfold hasD at hh
  rw [decide_eq_true_eq] at hh
  have hn : namedT v = textD (kOf v (unitD 0)) 0 := by unfold namedT; rw [if_neg (by omega), hd]
  rw [e1] at k0 k1 k2 k3 hh hn
  generalize kOf v 1000 = k at *
  refine ⟨k * 1000, by omega, k1, by omega, hh, ?_, ?_⟩
  · intro x x0 x1 x2 e
    have hx := mult_of x2
    have := k3 (x / 1000) (by omega) (by omega)
    rw [← hx] at this
    omega
  · rw [hn]
    unfold textD
    rw [e2, show k * 1000 / 1000 = k / 1 by omega]
    rw [if_pos rfl]

theorem named_1 {v : Int} (h0 : 0 ≤ v) (h1 : v ≤ 65534) (hh : hasD v 1 = true) (hd : decsOf v = 1) :
    ∃ n : Int, 0 ≤ n ∧ n ≤ 100000 ∧ n % 100 = 0 ∧ ofN n = v ∧ (∀ x : Int, 0 ≤ x → x < n → x % 100 = 0 → ofN x ≠ v) ∧
    namedT v = Lib.itoa (n / 1000) ++ 46 :: ((Lib.itoa (1000 + n % 1000)).drop 1).take 1 := by
  obtain ⟨k0, k1, k2, k3⟩ := kOf_spec 1 h0 (by omega : v ≤ 65535)
  have e1 : unitD 1 = 100 := rfl
  have e2 : partD 1 = 10 := rfl
  unfold hasD at hh
  rw [decide_eq_true_eq] at hh
  have hn : namedT v = textD (kOf v (unitD 1)) 1 := by unfold namedT; rw [if_neg (by omega), hd]
  rw [e1] at k0 k1 k2 k3 hh hn
  generalize kOf v 100 = k at *
  refine ⟨k * 100, by omega, k1, by omega, hh, ?_, ?_⟩
  · intro x x0 x1 x2 e
    have hx := mult_of x2
    have := k3 (x / 100) (by omega) (by omega)
    rw [← hx] at this
    omega
  · rw [hn]
    unfold textD
    rw [e2, show k * 100 / 1000 = k / 10 by omega]
    rw [if_neg (by decide), show k * 100 % 1000 = k % 10 * 100 by omega]
    have := rest_text (d := 1) (r := k % 10) (by omega) (by omega) (by omega) (by rw [e2]; omega)
    rw [e1] at this
    rw [this]

theorem named_2 {v : Int} (h0 : 0 ≤ v) (h1 : v ≤ 65534) (hh : hasD v 2 = true) (hd : decsOf v = 2) :
    ∃ n : Int, 0 ≤ n ∧ n ≤ 100000 ∧ n % 10 = 0 ∧ ofN n = v ∧ (∀ x : Int, 0 ≤ x → x < n → x % 10 = 0 → ofN x ≠ v) ∧
    namedT v = Lib.itoa (n / 1000) ++ 46 :: ((Lib.itoa (1000 + n % 1000)).drop 1).take 2 := by
  obtain ⟨k0, k1, k2, k3⟩ := kOf_spec 2 h0 (by omega : v ≤ 65535)
  have e1 : unitD 2 = 10 := rfl
  have e2 : partD 2 = 100 := rfl
  unfold hasD at hh
  rw [decide_eq_true_eq] at hh
  have hn : namedT v = textD (kOf v (unitD 2)) 2 := by unfold namedT; rw [if_neg (by omega), hd]
  rw [e1] at k0 k1 k2 k3 hh hn
  generalize kOf v 10 = k at *
  refine ⟨k * 10, by omega, k1, by omega, hh, ?_, ?_⟩
  · intro x x0 x1 x2 e
    have hx := mult_of x2
    have := k3 (x / 10) (by omega) (by omega)
    rw [← hx] at this
    omega
  · rw [hn]
    unfold textD
    rw [e2, show k * 10 / 1000 = k / 100 by omega]
    rw [if_neg (by decide), show k * 10 % 1000 = k % 100 * 10 by omega]
    have := rest_text (d := 2) (r := k % 100) (by omega) (by omega) (by omega) (by rw [e2]; omega)
    rw [e1] at this
    rw [this]

theorem named_3 {v : Int} (h0 : 0 ≤ v) (h1 : v ≤ 65534) (hh : hasD v 3 = true) (hd : decsOf v = 3) :
    ∃ n : Int, 0 ≤ n ∧ n ≤ 100000 ∧ n % 1 = 0 ∧ ofN n = v ∧ (∀ x : Int, 0 ≤ x → x < n → x % 1 = 0 → ofN x ≠ v) ∧
    namedT v = Lib.itoa (n / 1000) ++ 46 :: ((Lib.itoa (1000 + n % 1000)).drop 1).take 3 := by
  obtain ⟨k0, k1, k2, k3⟩ := kOf_spec 3 h0 (by omega : v ≤ 65535)
  have e1 : unitD 3 = 1 := rfl
  have e2 : partD 3 = 1000 := rfl
  unfold hasD at hh
  rw [decide_eq_true_eq] at hh
  have hn : namedT v = textD (kOf v (unitD 3)) 3 := by unfold namedT; rw [if_neg (by omega), hd]
  rw [e1] at k0 k1 k2 k3 hh hn
  generalize kOf v 1 = k at *
  refine ⟨k * 1, by omega, k1, by omega, hh, ?_, ?_⟩
  · intro x x0 x1 x2 e
    have hx := mult_of x2
    have := k3 (x / 1) (by omega) (by omega)
    rw [← hx] at this
    omega
  · rw [hn]
    unfold textD
    rw [e2, show k * 1 / 1000 = k / 1000 by omega]
    rw [if_neg (by decide), show k * 1 % 1000 = k % 1000 * 1 by omega]
    have := rest_text (d := 3) (r := k % 1000) (by omega) (by omega) (by omega) (by rw [e2]; omega)
    rw [e1] at this
    rw [this]
end Go.Proofs.YtjnhdimllllgaaaGreatDoor

namespace Go.Proofs.YtjnhdimllllgaaaGreatDoor
open Go.RowKit

theorem decs_eq {v : Int} (d : Nat) (h : hasD v d = true) (hl : ∀ e, e < d → hasD v e = false) (hd : d ≤ 3) : decsOf v = d := by
  rcases Nat.lt_trichotomy (decsOf v) d with h1 | h1 | h1
  · exfalso
    have := hl _ h1
    unfold decsOf at this h1
    split at h1
    · rename_i h2; rw [if_pos h2] at this; rw [h2] at this; cases this
    split at h1
    · rename_i h3 h2; rw [if_neg h3, if_pos h2] at this; rw [h2] at this; cases this
    split at h1
    · rename_i h4 h3 h2; rw [if_neg h4, if_neg h3, if_pos h2] at this; rw [h2] at this; cases this
    · omega
  · exact h1
  · rw [decs_less h1] at h; cases h
theorem not_mult {v : Int} {d : Nat} (h0 : 0 ≤ v) (h1 : v ≤ 65535) (h : hasD v d = false) {x : Int} (hx : x % unitD d = 0) : ofN x ≠ v := by
  have := has_no h0 h1 h (x / unitD d)
  rw [← mult_of hx] at this
  exact this
end Go.Proofs.YtjnhdimllllgaaaGreatDoor

namespace Go.Proofs.YtjnhdimllllgaaaGreatDoor
open Go.RowKit

theorem int_floor (z : Int) : ((z : Rat)).floor = z := floor_unique Rat.le_refl (by
  have : (0 : Rat) < 1 := by decide
  grind)
theorem int_near (z : Int) : ((z : Rat) + halfR).floor = z := by
  rcases near_cases (z : Rat) with ⟨e, _⟩ | ⟨_, h⟩
  · rw [e, int_floor]
  · exfalso
    rw [int_floor] at h
    grind
theorem inL_int {z : Int} (h0 : 0 ≤ z) (h1 : z ≤ 65535) : InL (z : Rat) := ⟨cast_le.2 h0, cast_le.2 h1⟩
theorem chkR_itoa {z : Int} (h : Fit z) : chkR (Lib.itoa z) = 0 ∧ valR (Lib.itoa z) = (z : Rat) := by
  have e : Lib.itoa z = rT (z : Rat) := by unfold rT; rw [Rat.den_intCast, if_pos rfl, Rat.num_intCast]
  rw [e]
  refine ⟨chkR_fit ⟨by rw [Rat.num_intCast]; exact h, by rw [Rat.den_intCast]; exact fit_lt (k := 1) (by decide) (by decide)⟩, valR_rT _⟩
theorem errLv_int {z : Int} (h0 : 0 ≤ z) (h1 : z ≤ 65535) : errLv (Lib.itoa z) = 0 ∧ valR (Lib.itoa z) = (z : Rat) := by
  obtain ⟨a, b⟩ := chkR_itoa (z := z) (fit_int (by omega) (by omega))
  refine ⟨?_, b⟩
  unfold errLv
  rw [a, if_neg (by decide), b, if_pos (inL_int h0 h1)]
theorem eight_int {z : Int} (h0 : 0 ≤ z) (h1 : z ≤ 65535) : eightT (Lib.itoa z) = ((2 * z + 257) / 514, 0) := by
  obtain ⟨a, b⟩ := errLv_int h0 h1
  unfold eightT
  rw [a, if_neg (by decide), b, eight_floor, int_floor, int_near, show z + z + 257 = 2 * z + 257 by omega]
theorem sixteen_int {z : Int} (h0 : 0 ≤ z) (h1 : z ≤ 65535) : sixteenT (Lib.itoa z) = (z, 0) := by
  obtain ⟨a, b⟩ := errLv_int h0 h1
  unfold sixteenT
  rw [a, if_neg (by decide), b, int_near]
theorem dig_one (z : Int) (h0 : 0 ≤ z) (h1 : z < 10) : Lib.itoa z = [dg1 z.natAbs] := by rw [itoa_pos' h0, dec_small (by omega)]
theorem dig_two (z : Int) (h0 : 10 ≤ z) (h1 : z < 100) : Lib.itoa z = [dg1 (z.natAbs / 10), dg1 (z.natAbs % 10)] := by rw [itoa_pos' (by omega), dec_big (by omega), dec_small (by omega)]; rfl
theorem dig_three (z : Int) (h0 : 100 ≤ z) (h1 : z < 1000) : Lib.itoa z = [dg1 (z.natAbs / 10 / 10), dg1 (z.natAbs / 10 % 10), dg1 (z.natAbs % 10)] := by rw [itoa_pos' (by omega), dec_big (by omega), dec_big (by omega), dec_small (by omega)]; rfl
theorem text_50 : namedT 32768 = [53, 48] := by
  have h : hasD 32768 0 = true := by decide
  have e : decsOf 32768 = 0 := by unfold decsOf; rw [h]; rfl
  have k : kOf 32768 (unitD 0) / partD 0 = 50 := by decide
  unfold namedT textD
  rw [if_neg (by decide), e, k, dig_two 50 (by decide) (by decide)]
  rfl
theorem text_1 : namedT 1 = [48, 46, 48, 48, 49] := by
  have h0 : hasD 1 0 = false := by decide
  have h1 : hasD 1 1 = false := by decide
  have h2 : hasD 1 2 = false := by decide
  have e : decsOf 1 = 3 := by unfold decsOf; rw [h0, h1, h2]; rfl
  have k : kOf 1 (unitD 3) / partD 3 = 0 := by decide
  have k2 : kOf 1 (unitD 3) % partD 3 = 1 := by decide
  unfold namedT textD padD
  rw [if_neg (by decide), e, k, k2, dig_one 0 (by decide) (by decide), dig_one 1 (by decide) (by decide)]
  rfl
theorem text_99 : namedT 65534 = [57, 57, 46, 57, 57, 56] := by
  have h0 : hasD 65534 0 = false := by decide
  have h1 : hasD 65534 1 = false := by decide
  have h2 : hasD 65534 2 = false := by decide
  have e : decsOf 65534 = 3 := by unfold decsOf; rw [h0, h1, h2]; rfl
  have k : kOf 65534 (unitD 3) / partD 3 = 99 := by decide
  have k2 : kOf 65534 (unitD 3) % partD 3 = 998 := by decide
  unfold namedT textD padD
  rw [if_neg (by decide), e, k, k2, dig_two 99 (by decide) (by decide), dig_three 998 (by decide) (by decide)]
  rfl
theorem itoa_32768 : Lib.itoa 32768 = [51, 50, 55, 54, 56] := by
  rw [itoa_pos' (by decide), dec_big (by decide), dec_big (by decide), dec_big (by decide), dec_big (by decide), dec_small (by decide)]
  rfl
end Go.Proofs.YtjnhdimllllgaaaGreatDoor
