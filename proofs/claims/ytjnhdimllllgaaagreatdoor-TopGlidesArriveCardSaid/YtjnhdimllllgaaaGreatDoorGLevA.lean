/- Lemmas and contracts of functions, joined for the claim: VFold, VDig, VPct, VText, VEight, VRaw. -/
import Derived.Test.YtjnhdimllllgaaaGreatDoorGQuo
import Derived.Test.YtjnhdimllllgaaaGreatDoorGPlain
import Derived.Lib.ConvBytes
import Derived.Shelf.GgClosure.StringsIndexFuncTop
import Derived.Lib.DecodeN
import Derived.Lib.MapLaws
namespace Go.Proofs.YtjnhdimllllgaaaGreatDoor
open Go.RowKit

def foldX (v : Int) (l : BT) : Int := v * 10 ^ l.length + dval l
theorem foldX_step (v : Int) (s : BT) (k : Nat) (h : k < s.length) : foldX v (s.take (k + 1)) = 10 * foldX v (s.take k) + ((s[k].toNat - 48 : Nat) : Int) := by
  unfold foldX
  have e1 : (s.take (k + 1)).length = (s.take k).length + 1 := by simp; omega
  rw [e1, dval_take_succ s k h, Int.pow_succ]
  generalize (10 : Int) ^ (s.take k).length = P
  have : v * (P * 10) = 10 * (v * P) := by rw [← Int.mul_assoc, Int.mul_comm]
  omega
theorem foldX_bd {v : Int} {l : BT} (h0 : 0 ≤ v) (h1 : v ≤ 999) (hd : Dgs l) (hl : l.length ≤ 3) : 0 ≤ foldX v l ∧ foldX v l ≤ 999999 := by
  unfold foldX
  have h2 := dval_lt hd
  obtain h | h | h | h : l.length = 0 ∨ l.length = 1 ∨ l.length = 2 ∨ l.length = 3 := by omega
  all_goals
    rw [h] at h2 ⊢
    omega
set_option maxRecDepth 100000 in
set_option maxHeartbeats 4000000 in
theorem vfold_any (s : ByteArray) (Q : Nat) (v : Int) (w : World) (hs : s.size ≤ 3) (hd : Dgs s.data.toList) (hv : 0 ≤ v) (hv2 : v ≤ 999) (hc : w.cell? ⟨Q, 0, none⟩ = some (.int .i64 v)) (hf : w.frozen? ⟨Q, 0, none⟩ = false) (hQ : Q < w.heap.size) :
    Calls Tryz.prog 111 #[.string s, .pointer (some ⟨Q, 0, none⟩)] w fun e w' => e = .returned (.tuple #[]) ∧ w'.cell? ⟨Q, 0, none⟩ = some (.int .i64 (foldX v s.data.toList)) ∧ w'.frozen? ⟨Q, 0, none⟩ = false ∧ w.grownBy w' (some Q) := by
  have hcv := Lib.run_convert_string_bytes (P := Tryz.prog) w 9 136 5 s (u := .string) Tryz.underlying9 Tryz.underlying136 Tryz.underlying5
  obtain ⟨W, hW⟩ : ∃ W, W = Lib.bytesWorld w 5 s := ⟨_, rfl⟩
  rw [← hW] at hcv
  have hbw : Below w.heap.size w W := by rw [hW]; exact Lib.bytesWorld_below _ _ _
  have hsz : W.heap.size = w.heap.size + 1 := by rw [hW]; exact Lib.bytesWorld_size _ _ _
  have hcb : ∀ j, j < s.size → W.cell? ⟨w.heap.size, j, none⟩ = some (.int .u8 (s.data.toList.getD j 0).toNat) := fun j hj => by rw [hW]; exact Lib.bytesWorld_cell _ _ _ _ hj
  obtain ⟨hcc, hcf⟩ := bcell hbw
  have c0 : W.cell? ⟨Q, 0, none⟩ = some (.int .i64 (foldX v (s.data.toList.take 0))) := by
    rw [hcc Q 0 hQ, hc]
    unfold foldX
    simp [dval_nil]
  have f0 : W.frozen? ⟨Q, 0, none⟩ = false := (hcf Q 0 hQ).trans hf
  have HCb := Lib.hid hcb
  have HS := Lib.hid hsz
  have HD := Lib.hid hd
  have HG := Lib.hid (grown_below (row := some Q) hbw)
  have C0 := Lib.hid c0
  have F0 := Lib.hid f0
  have HQ := Lib.hid hQ
  clear hW hbw hsz hcb hcc hcf c0 f0 hc hf hd hQ
  go_enter Tryz.func111, Tryz.ntmps111
  go_wp2
  go_loopw [8] (fun iv wr => ∃ k : Nat, k ≤ s.size ∧ iv = .int .i64 k ∧ wr.cell? ⟨Q, 0, none⟩ = some (.int .i64 (foldX v (s.data.toList.take k))) ∧ wr.frozen? ⟨Q, 0, none⟩ = false ∧ W.grownBy wr (some Q)) (fun iv _ => s.size - (intOf iv).toNat)
  case atStart => exact ⟨0, Nat.zero_le _, rfl, C0.out, F0.out, ⟨rfl, rfl, rfl, Nat.le_refl _, fun _ _ _ => rfl⟩⟩
  case round =>
    obtain ⟨k, hk, rfl, hcq, hfq, hg⟩ := hrel
    have HGr := Lib.hid hg
    by_cases hlt : k < s.size
    · have hlen : k < s.data.toList.length := by rw [bytes_len]; exact hlt
      have hb : wr.cell? ⟨w.heap.size, k, none⟩ = some (.int .u8 (s.data.toList.getD k 0).toNat) := (hg.cell_far ⟨w.heap.size, k, none⟩ (by have := HS.out; show w.heap.size < _; omega) (fun e => by injection e with e; have := HQ.out; have : w.heap.size = Q := e; omega)).trans (HCb.out k hlt)
      have hdg := isDg_iff.1 (HD.out (s.data.toList[k]) (List.getElem_mem hlen))
      have hst := foldX_step v s.data.toList k hlen
      have hbd := foldX_bd hv hv2 (HD.out.take k) (by rw [List.length_take, bytes_len]; omega)
      have hgd : s.data.toList.getD k 0 = s.data.toList[k] := by rw [List.getD_eq_getElem?_getD, List.getElem?_eq_getElem hlen]; rfl
      rw [hgd] at hb
      have hc1 : (48 : Int) ≤ (s.data.toList[k].toNat : Int) := by omega
      have hc2 : (s.data.toList[k].toNat : Int) ≤ 57 := by omega
      have hst2 : foldX v (s.data.toList.take (k + 1)) = 10 * foldX v (s.data.toList.take k) + ((s.data.toList[k].toNat : Int) - 48) := by rw [hst]; omega
      have HST := Lib.hid hst2
      obtain ⟨hb1, hb2⟩ := hbd
      generalize foldX v (s.data.toList.take k) = x at *
      generalize (s.data.toList[k].toNat : Int) = c at *
      clear hst hst2 hdg hgd hlen hg
      go_wp2
      go_roundw
      case rel =>
        refine ⟨k + 1, by omega, by go_num, ?_, by rw [World.frozen?_setCell]; exact hfq, HGr.out.trans (grown_set _ _ _ _)⟩
        rw [HST.out]
        exact World.cell?_setCell_same' _ _ _ (by rw [hcq]; rfl)
      case measure => simp [intOf]; omega
    · obtain rfl : k = s.size := by omega
      rw [List.take_of_length_le (by rw [bytes_len]; omega)] at hcq
      go_wp2
      go_end0
      exact ⟨rfl, hcq, hfq, HG.out.trans HGr.out⟩
end Go.Proofs.YtjnhdimllllgaaaGreatDoor

namespace Go.Proofs.YtjnhdimllllgaaaGreatDoor
open Go.RowKit

def pOther (x : Nat) : Bool := decide (x < 48) || decide (57 < x)
theorem get_bang (s : ByteArray) (i : Nat) (h : i < s.size) : s.get! i = s[i] := by
  show s.data[i]! = s.data[i]
  exact getElem!_pos s.data i h
theorem idx_step (s : ByteArray) (pos : Nat) (h : pos < s.size) : (isDg s[pos] = true → pOther (Utf8.decode s pos).1 = false ∧ (Utf8.decode s pos).2 = 1) ∧ (isDg s[pos] = false → pOther (Utf8.decode s pos).1 = true) := by
  rw [Lib.decode_at, get_bang s pos h]
  have hb : isDg s[pos] = decide (48 ≤ s[pos].toNat ∧ s[pos].toNat ≤ 57) := rfl
  rw [hb]
  generalize s[pos].toNat = b at *
  generalize s.size - pos = n at *
  unfold pOther
  rcases Lib.decodeN_shape n b (s.get! (pos + 1)).toNat (s.get! (pos + 2)).toNat (s.get! (pos + 3)).toNat with ⟨h1, e⟩ | ⟨h1, _, _, h2, e⟩ | ⟨h1, _, _, _, h2, _, e⟩ | ⟨h1, _, _, _, _, h2, _, e⟩ | e
  · rw [e]
    refine ⟨fun h => ?_, fun h => ?_⟩
    · rw [decide_eq_true_eq] at h
      refine ⟨?_, rfl⟩
      rw [decide_eq_false (by omega : ¬ b < 48), decide_eq_false (by omega : ¬ 57 < b)]; rfl
    · rw [decide_eq_false_iff_not] at h
      rw [Bool.or_eq_true, decide_eq_true_eq, decide_eq_true_eq]
      show b < 48 ∨ 57 < b
      omega
  all_goals
    refine ⟨fun h => ?_, fun h => ?_⟩
    · rw [decide_eq_true_eq] at h
      have : Lib.decodeN n b (s.get! (pos + 1)).toNat (s.get! (pos + 2)).toNat (s.get! (pos + 3)).toNat = (b, 1) := by unfold Lib.decodeN; rw [if_pos (by omega)]
      rw [this]
      refine ⟨?_, rfl⟩
      rw [decide_eq_false (by omega : ¬ b < 48), decide_eq_false (by omega : ¬ 57 < b)]; rfl
    · rw [decide_eq_false_iff_not] at h
      rw [Bool.or_eq_true, decide_eq_true_eq, decide_eq_true_eq]
      by_cases h8 : b < 128
      · have : Lib.decodeN n b (s.get! (pos + 1)).toNat (s.get! (pos + 2)).toNat (s.get! (pos + 3)).toNat = (b, 1) := by unfold Lib.decodeN; rw [if_pos h8]
        rw [this]
        show b < 48 ∨ 57 < b
        omega
      · right
        rw [e]
        first | (show 57 < 65533; omega) | (show 57 < _ + _; omega)
theorem idx_from (s : ByteArray) : ∀ (f pos : Nat), s.size ≤ f + pos → (Lib.idxFuncFrom pOther true s f pos < 0 ↔ ∀ i (h : i < s.size), pos ≤ i → isDg s[i] = true)
  | 0, pos, hf => by
    refine ⟨fun _ i h hp => absurd h (by omega), fun _ => ?_⟩
    show (-1 : Int) < 0
    omega
  | f + 1, pos, hf => by
    unfold Lib.idxFuncFrom
    by_cases h : pos < s.size
    · rw [if_pos h]
      obtain ⟨h1, h2⟩ := idx_step s pos h
      cases hd : isDg s[pos]
      · rw [if_pos (h2 hd)]
        refine ⟨fun h => absurd h (by omega), fun h3 => ?_⟩
        rw [h3 pos h (Nat.le_refl _)] at hd
        cases hd
      · obtain ⟨e1, e2⟩ := h1 hd
        rw [if_neg (by rw [e1]; decide), e2, idx_from s f (pos + 1) (by omega)]
        refine ⟨fun h3 i hi hp => ?_, fun h3 i hi hp => h3 i hi (by omega)⟩
        rcases Nat.lt_or_ge pos i with h4 | h4
        · exact h3 i hi h4
        · obtain rfl : i = pos := by omega
          exact hd
    · rw [if_neg h]
      exact ⟨fun _ i hi hp => absurd hi (by omega), fun _ => by omega⟩
theorem idx_dig (s : ByteArray) : decide (Lib.idxFunc pOther true s < 0) = s.data.toList.all isDg := by
  rw [Bool.eq_iff_iff, decide_eq_true_eq, List.all_eq_true]
  unfold Lib.idxFunc
  rw [idx_from s s.size 0 (by omega)]
  constructor
  · intro h c hc
    obtain ⟨i, hi, rfl⟩ := List.getElem_of_mem hc
    rw [bytes_len] at hi
    exact h i hi (Nat.zero_le _)
  · intro h i hi _
    exact h _ (List.getElem_mem (by rw [bytes_len]; exact hi))
set_option maxHeartbeats 1000000 in
theorem vother_any (x : Nat) (w : World) :
    Calls Tryz.prog 142 #[.int .i32 (x : Int)] w fun e w' => e = .returned (.bool (pOther x)) ∧ w' = w := by
  by_cases h1 : x < 48
  · have HV := Lib.hid (show pOther x = true by unfold pOther; rw [decide_eq_true h1]; rfl)
    have g1 : (x : Int) < 48 := by omega
    go_enter Tryz.func142, Tryz.ntmps142
    go_wp2
    go_ret
    exact ⟨by rw [HV.out]; rfl, rfl⟩
  · have g1 : ¬ (x : Int) < 48 := by omega
    by_cases h2 : 57 < x
    · have HV := Lib.hid (show pOther x = true by unfold pOther; rw [decide_eq_true h2, Bool.or_true])
      have g2 : (57 : Int) < (x : Int) := by omega
      go_enter Tryz.func142, Tryz.ntmps142
      go_wp2
      go_ret
      exact ⟨by rw [HV.out]; rfl, rfl⟩
    · have HV := Lib.hid (show pOther x = false by unfold pOther; rw [decide_eq_false h1, decide_eq_false h2]; rfl)
      have g2 : ¬ (57 : Int) < (x : Int) := by omega
      go_enter Tryz.func142, Tryz.ntmps142
      go_wp2
      go_ret
      exact ⟨by rw [HV.out]; rfl, rfl⟩
set_option maxHeartbeats 1000000 in
theorem vdigits_any (s : ByteArray) (w : World) :
    Calls Tryz.prog 110 #[.string s] w fun e w' => e = .returned (.bool (dig3 s.data.toList)) ∧ Below w.heap.size w w' := by
  have hB := Below.refl w.heap.size w
  by_cases h1 : 1 ≤ s.size ∧ s.size ≤ 3
  · have hI := fun w => Tryz.strings_IndexFunc 142 #[] (enters_of Tryz.func142 (by kernel_rfl) rfl) pOther s w (fun W x _ => (vother_any x W).mono fun _ _ ⟨h1, h2⟩ => ⟨h1, 0, by rw [h2]; rfl⟩)
    have hx := idx_dig s
    have HV := Lib.hid (show dig3 s.data.toList = s.data.toList.all isDg by unfold dig3; rw [bytes_len, decide_eq_true h1]; rfl)
    generalize Lib.idxFunc pOther true s = n at *
    have HI := Lib.hid hI
    obtain ⟨a1, a2⟩ := h1
    have HX := Lib.hid hx
    clear hI
    clear hx
    go_enter Tryz.func110, Tryz.ntmps110
    go_wp2_with (go_at_call 143; with_reducible refine (HI.out _).mono ?_; rintro e wk ⟨rfl, hb⟩; replace hB := hB.trans (hb.mono hB.size); clear hb)
    go_ret
    exact ⟨by rw [HV.out, ← HX.out]; rfl, hB⟩
  · have HV := Lib.hid (show dig3 s.data.toList = false by unfold dig3; rw [bytes_len, decide_eq_false h1]; rfl)
    by_cases h2 : 1 ≤ s.size
    · have h3 : ¬ s.size ≤ 3 := by omega
      clear h1
      go_enter Tryz.func110, Tryz.ntmps110
      go_wp2_with fail
      go_ret
      exact ⟨by rw [HV.out]; rfl, hB⟩
    · clear h1
      go_enter Tryz.func110, Tryz.ntmps110
      go_wp2_with fail
      go_ret
      exact ⟨by rw [HV.out]; rfl, hB⟩
end Go.Proofs.YtjnhdimllllgaaaGreatDoor

namespace Go.Proofs.YtjnhdimllllgaaaGreatDoor
open Go.RowKit

def wholeB (s : ByteArray) : ByteArray := ⟨(headB 46 s.data.toList).toArray⟩
def restB (s : ByteArray) : ByteArray := ⟨(tailB 46 s.data.toList).toArray⟩
theorem restT_of (s : BT) : restT s = if hasB 46 s then tailB 46 s else [48, 48, 48] := by
  unfold restT tailB hasB
  split <;> rfl
theorem foldX_zero (l : BT) : foldX 0 l = dval l := by unfold foldX; rw [Int.zero_mul, Int.zero_add]
theorem dval_bd (l : BT) (h : Dgs l) (hl : l.length ≤ 3) : dval l ≤ 999 := by
  have := dval_lt h
  have h2 : (10 : Nat) ^ l.length ≤ 10 ^ 3 := Nat.pow_le_pow_right (by omega) hl
  omega
theorem pad0_len (l : BT) : (pad0 l).length = 3 := by unfold pad0; rw [List.length_take, List.length_append]; simp
theorem pad0_dgs {l : BT} (h : Dgs l) : Dgs (pad0 l) := Dgs.take (h.append (by intro c hc; simp at hc; subst hc; decide)) 3
set_option maxRecDepth 100000 in
set_option maxHeartbeats 1000000 in
theorem vthous_ok (s u d : ByteArray) (has : Bool) (x val : Int) (w : World)
    (hC : ∀ w, Calls Tryz.prog 109 #[.string s, .string ⟨#[46]⟩] w fun e w' => e = .returned (.tuple #[.string u, .string d, .bool has]) ∧ ∃ n, w' = w.drewN n)
    (hA : ∀ w, Calls Tryz.prog 110 #[.string u] w fun e w' => e = .returned (.bool true) ∧ Below w.heap.size w w')
    (hD : has = true → ∀ w, Calls Tryz.prog 110 #[.string d] w fun e w' => e = .returned (.bool true) ∧ Below w.heap.size w w')
    (hu0 : 0 < u.size) (hl : ¬ (1 < u.size ∧ (u[0].toNat : Int) = 48)) (hd : d.size ≤ 3)
    (hF1 : ∀ (Q : Nat) w, w.cell? ⟨Q, 0, none⟩ = some (.int .i64 0) → w.frozen? ⟨Q, 0, none⟩ = false → Q < w.heap.size → Calls Tryz.prog 111 #[.string u, .pointer (some ⟨Q, 0, none⟩)] w fun e w' => e = .returned (.tuple #[]) ∧ w'.cell? ⟨Q, 0, none⟩ = some (.int .i64 x) ∧ w'.frozen? ⟨Q, 0, none⟩ = false ∧ w.grownBy w' (some Q))
    (hF2 : ∀ (Q : Nat) w, w.cell? ⟨Q, 0, none⟩ = some (.int .i64 x) → w.frozen? ⟨Q, 0, none⟩ = false → Q < w.heap.size → Calls Tryz.prog 111 #[.string ((d ++ ⟨#[48, 48, 48]⟩ : ByteArray).extract 0 3), .pointer (some ⟨Q, 0, none⟩)] w fun e w' => e = .returned (.tuple #[]) ∧ w'.cell? ⟨Q, 0, none⟩ = some (.int .i64 val) ∧ w'.frozen? ⟨Q, 0, none⟩ = false ∧ w.grownBy w' (some Q)) :
    Calls Tryz.prog 83 #[.string s] w fun e w' => e = .returned (.tuple #[.int .i64 val, .bool true]) ∧ Below w.heap.size w w' := by
  have hB := Below.refl w.heap.size w
  have HC := Lib.hid hC
  have HA := Lib.hid hA
  have HF1 := Lib.hid hF1
  have HF2 := Lib.hid hF2
  have HHD := Lib.hid hD
  have hfin : ∀ wk, Below w.heap.size w wk → ∀ W, W = (wk.alloc (.cells #[.int .i64 0] 3)) → Below w.heap.size w W ∧ W.cell? ⟨wk.heap.size, 0, none⟩ = some (.int .i64 0) ∧ W.frozen? ⟨wk.heap.size, 0, none⟩ = false ∧ wk.heap.size < W.heap.size := by
    intro wk hb W hW
    refine ⟨by rw [hW]; exact hb.alloc hb.size _, by rw [hW, World.cell?_alloc_new]; rfl, by rw [hW, World.frozen?_alloc_new], by rw [hW]; simp⟩
  have HFin := Lib.hid hfin
  clear hC hA hF1 hF2 hD hfin
  by_cases k1 : 1 < u.size
  · have e1 : ((u[0].toNat : Int) == 48) = false := by rw [beq_eq_false_iff_ne]; exact fun h => hl ⟨k1, h⟩
    clear hl
    cases has
    · have HD := HA
      go_enter Tryz.func83, Tryz.ntmps83
      go_wp2_with (first | (go_at_call 109; refine (HC.out _).mono ?_; rintro e w1 ⟨rfl, n, rfl⟩; replace hB := below_drewN hB n) | (go_at_call 110; with_reducible refine (HA.out _).mono ?_; rintro e wk ⟨rfl, hb⟩; replace hB := hB.trans (hb.mono hB.size); clear hb) | (go_at_call 110; with_reducible refine (HD.out _).mono ?_; rintro e wk ⟨rfl, hb⟩; replace hB := hB.trans (hb.mono hB.size); clear hb))
      obtain ⟨W, hW⟩ : ∃ W, W = wk.alloc (.cells #[.int .i64 0] 3) := ⟨_, rfl⟩
      rw [← hW]
      obtain ⟨b0, c0, f0, l0⟩ := HFin.out wk hB W hW
      have HB0 := Lib.hid b0
      have HL := Lib.hid (show w.heap.size ≤ wk.heap.size from hB.size)
      have HL0 := Lib.hid l0
      clear b0 hW
      refine (HF1.out _ _ c0 f0 l0).mono ?_
      rintro e w2 ⟨rfl, c2, f2, g2⟩
      have HG := Lib.hid g2
      clear c0 f0 l0 g2
      go_wp2_with fail
      refine (HF2.out _ _ c2 f2 (Nat.lt_of_lt_of_le HL0.out HG.out.size)).mono ?_
      rintro e w3 ⟨rfl, c3, f3, g3⟩
      have hfin := HB0.out.grown (HG.out.trans g3) (by have := HB0.out.size; omega) (fun k e => by injection e with e; have := HL.out; omega)
      clear g3 c2 f2
      go_wp2
      go_ret2
      exact ⟨rfl, hfin⟩
    · have HD := Lib.hid (HHD.out rfl)
      go_enter Tryz.func83, Tryz.ntmps83
      go_wp2_with (first | (go_at_call 109; refine (HC.out _).mono ?_; rintro e w1 ⟨rfl, n, rfl⟩; replace hB := below_drewN hB n) | (go_at_call 110; with_reducible refine (HA.out _).mono ?_; rintro e wk ⟨rfl, hb⟩; replace hB := hB.trans (hb.mono hB.size); clear hb) | (go_at_call 110; with_reducible refine (HD.out _).mono ?_; rintro e wk ⟨rfl, hb⟩; replace hB := hB.trans (hb.mono hB.size); clear hb))
      obtain ⟨W, hW⟩ : ∃ W, W = wk.alloc (.cells #[.int .i64 0] 3) := ⟨_, rfl⟩
      rw [← hW]
      obtain ⟨b0, c0, f0, l0⟩ := HFin.out wk hB W hW
      have HB0 := Lib.hid b0
      have HL := Lib.hid (show w.heap.size ≤ wk.heap.size from hB.size)
      have HL0 := Lib.hid l0
      clear b0 hW
      refine (HF1.out _ _ c0 f0 l0).mono ?_
      rintro e w2 ⟨rfl, c2, f2, g2⟩
      have HG := Lib.hid g2
      clear c0 f0 l0 g2
      go_wp2_with fail
      refine (HF2.out _ _ c2 f2 (Nat.lt_of_lt_of_le HL0.out HG.out.size)).mono ?_
      rintro e w3 ⟨rfl, c3, f3, g3⟩
      have hfin := HB0.out.grown (HG.out.trans g3) (by have := HB0.out.size; omega) (fun k e => by injection e with e; have := HL.out; omega)
      clear g3 c2 f2
      go_wp2
      go_ret2
      exact ⟨rfl, hfin⟩
  · clear hl
    cases has
    · have HD := HA
      go_enter Tryz.func83, Tryz.ntmps83
      go_wp2_with (first | (go_at_call 109; refine (HC.out _).mono ?_; rintro e w1 ⟨rfl, n, rfl⟩; replace hB := below_drewN hB n) | (go_at_call 110; with_reducible refine (HA.out _).mono ?_; rintro e wk ⟨rfl, hb⟩; replace hB := hB.trans (hb.mono hB.size); clear hb) | (go_at_call 110; with_reducible refine (HD.out _).mono ?_; rintro e wk ⟨rfl, hb⟩; replace hB := hB.trans (hb.mono hB.size); clear hb))
      obtain ⟨W, hW⟩ : ∃ W, W = wk.alloc (.cells #[.int .i64 0] 3) := ⟨_, rfl⟩
      rw [← hW]
      obtain ⟨b0, c0, f0, l0⟩ := HFin.out wk hB W hW
      have HB0 := Lib.hid b0
      have HL := Lib.hid (show w.heap.size ≤ wk.heap.size from hB.size)
      have HL0 := Lib.hid l0
      clear b0 hW
      refine (HF1.out _ _ c0 f0 l0).mono ?_
      rintro e w2 ⟨rfl, c2, f2, g2⟩
      have HG := Lib.hid g2
      clear c0 f0 l0 g2
      go_wp2_with fail
      refine (HF2.out _ _ c2 f2 (Nat.lt_of_lt_of_le HL0.out HG.out.size)).mono ?_
      rintro e w3 ⟨rfl, c3, f3, g3⟩
      have hfin := HB0.out.grown (HG.out.trans g3) (by have := HB0.out.size; omega) (fun k e => by injection e with e; have := HL.out; omega)
      clear g3 c2 f2
      go_wp2
      go_ret2
      exact ⟨rfl, hfin⟩
    · have HD := Lib.hid (HHD.out rfl)
      go_enter Tryz.func83, Tryz.ntmps83
      go_wp2_with (first | (go_at_call 109; refine (HC.out _).mono ?_; rintro e w1 ⟨rfl, n, rfl⟩; replace hB := below_drewN hB n) | (go_at_call 110; with_reducible refine (HA.out _).mono ?_; rintro e wk ⟨rfl, hb⟩; replace hB := hB.trans (hb.mono hB.size); clear hb) | (go_at_call 110; with_reducible refine (HD.out _).mono ?_; rintro e wk ⟨rfl, hb⟩; replace hB := hB.trans (hb.mono hB.size); clear hb))
      obtain ⟨W, hW⟩ : ∃ W, W = wk.alloc (.cells #[.int .i64 0] 3) := ⟨_, rfl⟩
      rw [← hW]
      obtain ⟨b0, c0, f0, l0⟩ := HFin.out wk hB W hW
      have HB0 := Lib.hid b0
      have HL := Lib.hid (show w.heap.size ≤ wk.heap.size from hB.size)
      have HL0 := Lib.hid l0
      clear b0 hW
      refine (HF1.out _ _ c0 f0 l0).mono ?_
      rintro e w2 ⟨rfl, c2, f2, g2⟩
      have HG := Lib.hid g2
      clear c0 f0 l0 g2
      go_wp2_with fail
      refine (HF2.out _ _ c2 f2 (Nat.lt_of_lt_of_le HL0.out HG.out.size)).mono ?_
      rintro e w3 ⟨rfl, c3, f3, g3⟩
      have hfin := HB0.out.grown (HG.out.trans g3) (by have := HB0.out.size; omega) (fun k e => by injection e with e; have := HL.out; omega)
      clear g3 c2 f2
      go_wp2
      go_ret2
      exact ⟨rfl, hfin⟩
set_option maxRecDepth 100000 in
set_option maxHeartbeats 1000000 in
theorem vthous_no (s u d : ByteArray) (has b1 b2 : Bool) (w : World)
    (hC : ∀ w, Calls Tryz.prog 109 #[.string s, .string ⟨#[46]⟩] w fun e w' => e = .returned (.tuple #[.string u, .string d, .bool has]) ∧ ∃ n, w' = w.drewN n)
    (hA : ∀ w, Calls Tryz.prog 110 #[.string u] w fun e w' => e = .returned (.bool b1) ∧ Below w.heap.size w w')
    (hD : ∀ w, Calls Tryz.prog 110 #[.string d] w fun e w' => e = .returned (.bool b2) ∧ Below w.heap.size w w')
    (hu : b1 = true → 0 < u.size)
    (hbad : b1 = false ∨ (∃ h : 0 < u.size, 1 < u.size ∧ (u[0].toNat : Int) = 48) ∨ (has = true ∧ b2 = false)) :
    Calls Tryz.prog 83 #[.string s] w fun e w' => e = .returned (.tuple #[.int .i64 0, .bool false]) ∧ Below w.heap.size w w' := by
  have hB := Below.refl w.heap.size w
  have HC := Lib.hid hC
  have HA := Lib.hid hA
  have HD := Lib.hid hD
  clear hC hA hD
  cases b1
  · clear hbad hu HD
    go_enter Tryz.func83, Tryz.ntmps83
    go_wp2_with (first | (go_at_call 109; refine (HC.out _).mono ?_; rintro e w1 ⟨rfl, n, rfl⟩; replace hB := below_drewN hB n) | (go_at_call 110; with_reducible refine (HA.out _).mono ?_; rintro e wk ⟨rfl, hb⟩; replace hB := hB.trans (hb.mono hB.size); clear hb))
    go_ret2
    exact ⟨rfl, hB⟩
  · have hu0 := hu rfl
    clear hu
    by_cases k1 : 1 < u.size
    · by_cases k2 : (u[0].toNat : Int) = 48
      · have e1 : ((u[0].toNat : Int) == 48) = true := by simpa using k2
        clear hbad HD k2
        go_enter Tryz.func83, Tryz.ntmps83
        go_wp2_with (first | (go_at_call 109; refine (HC.out _).mono ?_; rintro e w1 ⟨rfl, n, rfl⟩; replace hB := below_drewN hB n) | (go_at_call 110; with_reducible refine (HA.out _).mono ?_; rintro e wk ⟨rfl, hb⟩; replace hB := hB.trans (hb.mono hB.size); clear hb))
        go_ret2
        exact ⟨rfl, hB⟩
      · obtain ⟨rfl, rfl⟩ : has = true ∧ b2 = false := by
          rcases hbad with h | ⟨_, _, h⟩ | h
          · cases h
          · exact absurd h k2
          · exact h
        have e1 : ((u[0].toNat : Int) == 48) = false := by simpa using k2
        clear hbad k2
        go_enter Tryz.func83, Tryz.ntmps83
        go_wp2_with (first | (go_at_call 109; refine (HC.out _).mono ?_; rintro e w1 ⟨rfl, n, rfl⟩; replace hB := below_drewN hB n) | (go_at_call 110; with_reducible refine (HA.out _).mono ?_; rintro e wk ⟨rfl, hb⟩; replace hB := hB.trans (hb.mono hB.size); clear hb) | (go_at_call 110; with_reducible refine (HD.out _).mono ?_; rintro e wk ⟨rfl, hb⟩; replace hB := hB.trans (hb.mono hB.size); clear hb))
        go_ret2
        exact ⟨rfl, hB⟩
    · obtain ⟨rfl, rfl⟩ : has = true ∧ b2 = false := by
        rcases hbad with h | ⟨_, h, _⟩ | h
        · cases h
        · exact absurd h k1
        · exact h
      clear hbad
      go_enter Tryz.func83, Tryz.ntmps83
      go_wp2_with (first | (go_at_call 109; refine (HC.out _).mono ?_; rintro e w1 ⟨rfl, n, rfl⟩; replace hB := below_drewN hB n) | (go_at_call 110; with_reducible refine (HA.out _).mono ?_; rintro e wk ⟨rfl, hb⟩; replace hB := hB.trans (hb.mono hB.size); clear hb) | (go_at_call 110; with_reducible refine (HD.out _).mono ?_; rintro e wk ⟨rfl, hb⟩; replace hB := hB.trans (hb.mono hB.size); clear hb))
      go_ret2
      exact ⟨rfl, hB⟩
theorem vthous_any (s : ByteArray) (w : World) (hs : s.size ≤ 9223372036854775807) :
    Calls Tryz.prog 83 #[.string s] w fun e w' => e = .returned (.tuple #[.int .i64 (if okP s.data.toList then valP s.data.toList else 0), .bool (okP s.data.toList)]) ∧ Below w.heap.size w w' := by
  have hC : ∀ w, Calls Tryz.prog 109 #[.string s, .string ⟨#[46]⟩] w fun e w' => e = .returned (.tuple #[.string (wholeB s), .string (restB s), .bool (hasB 46 s.data.toList)]) ∧ ∃ n, w' = w.drewN n := fun w => scutd_any s w hs
  have hA := fun w => vdigits_any (wholeB s) w
  have hD := fun w => vdigits_any (restB s) w
  have hok : okP s.data.toList = (dig3 (wholeT s.data.toList) && dig3 (restT s.data.toList) && !(decide (1 < (wholeT s.data.toList).length) && decide ((wholeT s.data.toList).head? = some 48))) := rfl
  have hval : valP s.data.toList = 1000 * (dval (wholeT s.data.toList) : Int) + (dval (pad0 (restT s.data.toList)) : Int) := rfl
  have lU : (wholeB s).data.toList = wholeT s.data.toList := rfl
  have lD : (restB s).data.toList = tailB 46 s.data.toList := rfl
  have hr := restT_of s.data.toList
  have ul : (wholeB s).size = (wholeT s.data.toList).length := by rw [← bytes_len, lU]
  have uh : ∀ h : 0 < (wholeB s).size, (wholeT s.data.toList).head? = some (wholeB s)[0] := fun h => by
    rw [← lU, List.head?_eq_getElem?, List.getElem?_eq_getElem (by simpa using h)]; rfl
  have hcc : ∀ h : 0 < (wholeB s).size, (((wholeB s)[0].toNat : Int) = 48) ↔ (wholeB s)[0] = 48 := fun h => by
    rw [← UInt8.toNat_inj]; show _ ↔ (wholeB s)[0].toNat = 48; omega
  rw [lU] at hA
  rw [lD] at hD
  cases hk : okP s.data.toList
  · refine vthous_no s (wholeB s) (restB s) (hasB 46 s.data.toList) _ _ w hC hA hD (fun h => by rw [ul]; have := (dig3_iff.1 h).1; omega) ?_
    rw [hok] at hk
    cases h1 : dig3 (wholeT s.data.toList)
    · exact .inl rfl
    · refine .inr ?_
      have hp : 0 < (wholeB s).size := by rw [ul]; have := (dig3_iff.1 h1).1; omega
      rw [h1, hr, Bool.true_and, Bool.and_eq_false_iff] at hk
      rcases hk with hk | hk
      · cases hh : hasB 46 s.data.toList
        · rw [hh] at hk
          exact absurd hk (by rw [if_neg (by decide)]; decide)
        · rw [hh] at hk
          exact .inr ⟨rfl, hk⟩
      · rw [Bool.not_eq_false', Bool.and_eq_true, decide_eq_true_eq, decide_eq_true_eq, uh hp, ← ul] at hk
        exact .inl ⟨hp, hk.1, (hcc hp).2 (by have := hk.2; injection this)⟩
  · rw [hok, Bool.and_eq_true, Bool.and_eq_true] at hk
    obtain ⟨⟨h1, h2⟩, h3⟩ := hk
    have hU := dig3_iff.1 h1
    have hp : 0 < (wholeB s).size := by rw [ul]; omega
    rw [Bool.not_eq_true', Bool.and_eq_false_iff, decide_eq_false_iff_not, decide_eq_false_iff_not, uh hp, ← ul] at h3
    have hlead : ¬ (1 < (wholeB s).size ∧ ((wholeB s)[0].toNat : Int) = 48) := by
      rintro ⟨a, b⟩
      rcases h3 with h3 | h3
      · exact h3 a
      · exact h3 (by rw [(hcc hp).1 b])
    have hx1 : (dval (wholeT s.data.toList) : Int) ≤ 999 := by have := dval_bd _ hU.2 (by omega); omega
    have hdd : (tailB 46 s.data.toList).length ≤ 3 ∧ Dgs (tailB 46 s.data.toList) ∧ pad0 (tailB 46 s.data.toList) = pad0 (restT s.data.toList) := by
      rw [hr] at h2 ⊢
      cases hh : hasB 46 s.data.toList
      · rw [(head_none hh).2]
        exact ⟨Nat.zero_le _, (fun c hc => by cases hc), rfl⟩
      · rw [hh] at h2
        have := dig3_iff.1 h2
        exact ⟨this.1.2, this.2, rfl⟩
    obtain ⟨l3, lg, lp⟩ := hdd
    have hE3 : ((restB s ++ ⟨#[48, 48, 48]⟩ : ByteArray).extract 0 3).data.toList = pad0 (tailB 46 s.data.toList) := by
      rw [take_bytes0, ByteArray.data_append, Array.toList_append, lD]; rfl
    have hvv : foldX (dval (wholeT s.data.toList) : Int) (pad0 (tailB 46 s.data.toList)) = valP s.data.toList := by
      rw [hval, ← lp]
      unfold foldX
      rw [pad0_len]
      omega
    rw [if_pos rfl]
    refine vthous_ok s (wholeB s) (restB s) (hasB 46 s.data.toList) (dval (wholeT s.data.toList) : Int) _ w hC (by rw [h1] at hA; exact hA) ?_ hp hlead (by rw [← bytes_len, lD]; exact l3) ?_ ?_
    · intro hh
      rw [hr, hh] at h2
      have h2' : dig3 (tailB 46 s.data.toList) = true := h2
      rw [h2'] at hD
      exact hD
    · intro Q w hc hf hQ
      have := vfold_any (wholeB s) Q 0 w (by omega) (by rw [lU]; exact hU.2) (by omega) (by omega) hc hf hQ
      rw [lU, foldX_zero] at this
      exact this
    · intro Q w hc hf hQ
      have := vfold_any ((restB s ++ ⟨#[48, 48, 48]⟩ : ByteArray).extract 0 3) Q (dval (wholeT s.data.toList) : Int) w (by rw [← bytes_len, hE3, pad0_len]; exact Nat.le_refl _) (by rw [hE3]; exact pad0_dgs lg) (by omega) hx1 hc hf hQ
      rw [hE3, hvv] at this
      exact this
set_option maxHeartbeats 1000000 in
theorem vof_any (n : Int) (w : World) (h0 : 0 ≤ n) (h1 : n ≤ 1000000) :
    Calls Tryz.prog 84 #[.int .i64 n] w fun e w' => e = .returned (.int .i64 (ofN n)) ∧ w' = w := by
  have HV := Lib.hid (show ofN n = (65535 * n + 50000) / 100000 from rfl)
  generalize ofN n = v at *
  go_enter Tryz.func84, Tryz.ntmps84
  go_wp2
  go_ret
  exact ⟨by rw [HV.out]; rfl, rfl⟩
theorem is_full (s : ByteArray) : (s.toList == [102, 117, 108, 108]) = decide (s.data.toList = fullT) := by
  show (s.toList == [102, 117, 108, 108]) = decide (s.data.toList = [102, 117, 108, 108])
  rw [ByteArray.toList_eq, Bool.eq_iff_iff, beq_iff_eq, decide_eq_true_eq]
set_option maxHeartbeats 1000000 in
theorem vpercent_any (s : ByteArray) (w : World) (hs : s.size ≤ 9223372036854775807) :
    Calls Tryz.prog 53 #[.string s] w fun e w' => e = .returned (.tuple #[.int .i64 (pctT s.data.toList).1, .int .i64 (pctT s.data.toList).2]) ∧ Below w.heap.size w w' := by
  have hB := Below.refl w.heap.size w
  have g1 := is_full s
  have hT := fun w => vthous_any s w hs
  by_cases hf : s.data.toList = fullT
  · have HV := Lib.hid (show pctT s.data.toList = (65535, 0) by unfold pctT; rw [if_pos hf])
    rw [decide_eq_true hf] at g1
    clear hT hf
    go_enter Tryz.func53, Tryz.ntmps53
    go_wp2
    go_ret2
    exact ⟨by rw [HV.out]; rfl, hB⟩
  rw [decide_eq_false hf] at g1
  cases hk : okP s.data.toList
  · have HV := Lib.hid (show pctT s.data.toList = (0, 3) by unfold pctT; rw [if_neg hf, hk, if_pos rfl])
    rw [hk] at hT
    simp only [Bool.false_eq_true, if_false] at hT
    have HT := Lib.hid hT
    clear hT hf hk
    go_enter Tryz.func53, Tryz.ntmps53
    go_wp2_with (go_at_call 83; with_reducible refine (HT.out _).mono ?_; rintro e wk ⟨rfl, hb⟩; replace hB := hB.trans (hb.mono hB.size); clear hb)
    go_ret2
    exact ⟨by rw [HV.out]; rfl, hB⟩
  · have hv : pctT s.data.toList = if 100000 < valP s.data.toList then (0, 2) else (ofN (valP s.data.toList), 0) := by unfold pctT; rw [if_neg hf, hk, if_neg (by decide)]
    obtain ⟨v0, v1⟩ := valP_bd hk
    rw [hk] at hT
    simp only [if_true] at hT
    have HT := Lib.hid hT
    generalize valP s.data.toList = x at *
    by_cases hx : 100000 < x
    · rw [if_pos hx] at hv
      have HV := Lib.hid hv
      clear hT hf hk hv
      go_enter Tryz.func53, Tryz.ntmps53
      go_wp2_with (go_at_call 83; with_reducible refine (HT.out _).mono ?_; rintro e wk ⟨rfl, hb⟩; replace hB := hB.trans (hb.mono hB.size); clear hb)
      go_ret2
      exact ⟨by rw [HV.out]; rfl, hB⟩
    · rw [if_neg hx] at hv
      have HV := Lib.hid hv
      have HO := Lib.hid (fun w => vof_any x w v0 (by omega))
      generalize ofN x = y at *
      clear hT hf hk hv
      go_enter Tryz.func53, Tryz.ntmps53
      go_wp2_with (first | (go_at_call 83; with_reducible refine (HT.out _).mono ?_; rintro e wk ⟨rfl, hb⟩; replace hB := hB.trans (hb.mono hB.size); clear hb) | (go_at_call 84; refine (HO.out _).mono ?_; rintro e w1 ⟨rfl, rfl⟩))
      go_ret2
      exact ⟨by rw [HV.out]; rfl, hB⟩
end Go.Proofs.YtjnhdimllllgaaaGreatDoor

namespace Go.Proofs.YtjnhdimllllgaaaGreatDoor
open Go.RowKit

def padB (d : Nat) (r : Int) : ByteArray := ⟨(padD d r).toArray⟩
set_option maxHeartbeats 1000000 in
theorem vdecimal_any (L : Int) (d : Nat) (n : Int) (hL : L = (d : Int)) (hd : d ≤ 3) (h0 : 0 ≤ n) (h1 : n ≤ 1000000) (w : World) (ht : Tab w) :
    Calls Tryz.prog 108 #[.int .i64 n, .int .i64 L] w fun e w' => e = .returned (.string (padB d n)) ∧ Below w.heap.size w w' := by
  subst hL
  have HT := Lib.hid ht
  have hB := Below.refl w.heap.size w
  have HO := Lib.hid (fun w ht => of_fit (x := n) (by omega) (by omega) w ht)
  have hsz : (sI n).size ≤ 8 := sI_len (k := 7) (by omega) (by omega)
  have hR := fun w => Tryz.strings_Repeat ⟨#[48]⟩ (d - (sI n).size) w (by omega) (by show 1 * (d - (sI n).size) ≤ _; omega)
  have hV : (⟨(Lib.repeatL (⟨#[48]⟩ : ByteArray).data.toList (d - (sI n).size)).toArray⟩ : ByteArray) ++ sI n = padB d n := by
    refine ByteArray.ext (Array.ext' ?_)
    rw [ByteArray.data_append, Array.toList_append, rep48]
    show _ = padD d n
    unfold padD
    rw [← bytes_len, sI_list]
  have hrs : (⟨(Lib.repeatL (⟨#[48]⟩ : ByteArray).data.toList (d - (sI n).size)).toArray⟩ : ByteArray).size ≤ 3 := by
    rw [← bytes_len, rep48, List.length_replicate]; omega
  generalize (⟨(Lib.repeatL (⟨#[48]⟩ : ByteArray).data.toList (d - (sI n).size)).toArray⟩ : ByteArray) = R at *
  generalize sI n = S at *
  have hm : max (0 : Int) ((d : Int) - (S.size : Int)) = ((d - S.size : Nat) : Int) := by omega
  have HR := Lib.hid hR
  have HV := Lib.hid hV
  generalize d - S.size = c at *
  clear hR hV ht
  go_enter Tryz.func108, Tryz.ntmps108
  go_wp2_with (first | (go_at_call 86; with_reducible refine (HO.out _ (HT.out.below hB)).mono ?_; rintro e wk ⟨rfl, hb⟩; replace hB := hB.trans (hb.mono hB.size); clear hb) | (go_at_call 140; with_reducible refine (HR.out _).mono ?_; rintro e wk ⟨rfl, hb⟩; replace hB := hB.trans (hb.mono hB.size); clear hb))
  go_ret
  exact ⟨by rw [← HV.out]; rfl, hB⟩
theorem padD_one {q : Int} (h : 0 ≤ q) : padD 1 q = Lib.itoa q := by
  unfold padD
  have : 1 - (Lib.itoa q).length = 0 := by
    rw [itoa_pos' h]
    have := List.length_pos_iff.2 (dec_ne q.natAbs)
    omega
  rw [this]; rfl
set_option maxHeartbeats 1000000 in
theorem vwritten0_no (v : Int) (w : World) (ht : Tab w) (h0 : 0 ≤ v) (h1 : v ≤ 65535) (hh : hasD v 0 = false) :
    Calls Tryz.prog 82 #[.int .i64 v, .int .i64 1000, .int .i64 0] w fun e w' => e = .returned (.tuple #[.string ⟨#[]⟩, .bool false]) ∧ Below w.heap.size w w' := by
  have HT := Lib.hid ht
  have hB := Below.refl w.heap.size w
  obtain ⟨k0, k1, _, _⟩ := kOf_spec 0 h0 h1
  have hk : max (0 : Int) ((100000 * v - 50000 + 65535000 - 1) / 65535000) = kOf v (unitD 0) := by
    have : kOf v (unitD 0) = (100000 * v - 50000 + 65535000 - 1) / 65535000 := rfl
    rw [← this]; omega
  have e1 : unitD 0 = 1000 := rfl
  have e2 : partD 0 = 1 := rfl
  unfold hasD at hh
  rw [e1] at hk k0 k1 hh
  generalize kOf v 1000 = k at *
  have HO := Lib.hid (fun w => vof_any (k * 1000) w (by omega) (by omega))
  rw [decide_eq_false_iff_not] at hh
  have g1 : (ofN (k * 1000) == v) = false := by simpa using hh
  have g2 : (ofN (k * 1000) != v) = true := by simpa using hh
  generalize ofN (k * 1000) = y at *
  clear ht hh e1 e2 HT
  go_enter Tryz.func82, Tryz.ntmps82
  go_wp2_with (go_at_call 84; refine (HO.out _).mono ?_; rintro e w1 ⟨rfl, rfl⟩)
  go_ret2
  exact ⟨rfl, hB⟩
set_option maxHeartbeats 1000000 in
theorem vwritten0_yes (v : Int) (w : World) (ht : Tab w) (h0 : 0 ≤ v) (h1 : v ≤ 65535) (hh : hasD v 0 = true) :
    Calls Tryz.prog 82 #[.int .i64 v, .int .i64 1000, .int .i64 0] w fun e w' => e = .returned (.tuple #[.string ⟨(textD (kOf v 1000) 0).toArray⟩, .bool true]) ∧ Below w.heap.size w w' := by
  have HT := Lib.hid ht
  have hB := Below.refl w.heap.size w
  obtain ⟨k0, k1, _, _⟩ := kOf_spec 0 h0 h1
  have hk : max (0 : Int) ((100000 * v - 50000 + 65535000 - 1) / 65535000) = kOf v (unitD 0) := by
    have : kOf v (unitD 0) = (100000 * v - 50000 + 65535000 - 1) / 65535000 := rfl
    rw [← this]; omega
  have e1 : unitD 0 = 1000 := rfl
  have e2 : partD 0 = 1 := rfl
  unfold hasD at hh
  rw [e1] at hk k0 k1 hh
  generalize kOf v 1000 = k at *
  have HO := Lib.hid (fun w => vof_any (k * 1000) w (by omega) (by omega))
  rw [decide_eq_true_eq] at hh

  rw [hh] at HO
  have hq0 : 0 ≤ k := by omega
  have hq1 : k ≤ 100 := by omega
  have HD := Lib.hid (fun w ht => vdecimal_any 1 1 (k) rfl (by omega) hq0 (by omega) w ht)
  have HV := Lib.hid (show padB 1 k = ⟨(textD k 0).toArray⟩ by unfold padB textD; rw [padD_one hq0, e2, Int.ediv_one, if_pos rfl, List.append_nil])
  clear ht hh e1 e2
  go_enter Tryz.func82, Tryz.ntmps82
  go_wp2_with (first | (go_at_call 84; refine (HO.out _).mono ?_; rintro e w1 ⟨rfl, rfl⟩) | (go_at_call 108; with_reducible refine (HD.out _ (HT.out.below hB)).mono ?_; rintro e wk ⟨rfl, hb⟩; replace hB := hB.trans (hb.mono hB.size); clear hb))
  go_ret2
  exact ⟨by rw [← HV.out]; rfl, hB⟩
set_option maxHeartbeats 1000000 in
theorem vwritten1_no (v : Int) (w : World) (ht : Tab w) (h0 : 0 ≤ v) (h1 : v ≤ 65535) (hh : hasD v 1 = false) :
    Calls Tryz.prog 82 #[.int .i64 v, .int .i64 100, .int .i64 1] w fun e w' => e = .returned (.tuple #[.string ⟨#[]⟩, .bool false]) ∧ Below w.heap.size w w' := by
  have HT := Lib.hid ht
  have hB := Below.refl w.heap.size w
  obtain ⟨k0, k1, _, _⟩ := kOf_spec 1 h0 h1
  have hk : max (0 : Int) ((100000 * v - 50000 + 6553500 - 1) / 6553500) = kOf v (unitD 1) := by
    have : kOf v (unitD 1) = (100000 * v - 50000 + 6553500 - 1) / 6553500 := rfl
    rw [← this]; omega
  have e1 : unitD 1 = 100 := rfl
  have e2 : partD 1 = 10 := rfl
  unfold hasD at hh
  rw [e1] at hk k0 k1 hh
  generalize kOf v 100 = k at *
  have HO := Lib.hid (fun w => vof_any (k * 100) w (by omega) (by omega))
  rw [decide_eq_false_iff_not] at hh
  have g1 : (ofN (k * 100) == v) = false := by simpa using hh
  have g2 : (ofN (k * 100) != v) = true := by simpa using hh
  generalize ofN (k * 100) = y at *
  clear ht hh e1 e2 HT
  go_enter Tryz.func82, Tryz.ntmps82
  go_wp2_with (go_at_call 84; refine (HO.out _).mono ?_; rintro e w1 ⟨rfl, rfl⟩)
  go_ret2
  exact ⟨rfl, hB⟩
set_option maxHeartbeats 1000000 in
theorem vwritten1_yes (v : Int) (w : World) (ht : Tab w) (h0 : 0 ≤ v) (h1 : v ≤ 65535) (hh : hasD v 1 = true) :
    Calls Tryz.prog 82 #[.int .i64 v, .int .i64 100, .int .i64 1] w fun e w' => e = .returned (.tuple #[.string ⟨(textD (kOf v 100) 1).toArray⟩, .bool true]) ∧ Below w.heap.size w w' := by
  have HT := Lib.hid ht
  have hB := Below.refl w.heap.size w
  obtain ⟨k0, k1, _, _⟩ := kOf_spec 1 h0 h1
  have hk : max (0 : Int) ((100000 * v - 50000 + 6553500 - 1) / 6553500) = kOf v (unitD 1) := by
    have : kOf v (unitD 1) = (100000 * v - 50000 + 6553500 - 1) / 6553500 := rfl
    rw [← this]; omega
  have e1 : unitD 1 = 100 := rfl
  have e2 : partD 1 = 10 := rfl
  unfold hasD at hh
  rw [e1] at hk k0 k1 hh
  generalize kOf v 100 = k at *
  have HO := Lib.hid (fun w => vof_any (k * 100) w (by omega) (by omega))
  rw [decide_eq_true_eq] at hh

  rw [hh] at HO
  have hq0 : 0 ≤ k / 10 := by omega
  have hq1 : k / 10 ≤ 100 := by omega
  have HD := Lib.hid (fun w ht => vdecimal_any 1 1 (k / 10) rfl (by omega) hq0 (by omega) w ht)
  have hr0 : 0 ≤ k % 10 := by omega
  have hr1 : k % 10 < 10 := by omega
  have HE := Lib.hid (fun w ht => vdecimal_any 1 1 (k % 10) rfl (by omega) hr0 (by omega) w ht)
  have s1 : (padB 1 (k / 10)).size ≤ 10 := by
    rw [← bytes_len]
    show (padD 1 (k / 10)).length ≤ 10
    rw [padD_one hq0]
    have := itoa_lt (k := 3) hq0 (by omega) (by omega)
    omega
  have s2 : (padB 1 (k % 10)).size ≤ 10 := by
    rw [← bytes_len]
    show (padD 1 (k % 10)).length ≤ 10
    rw [padD_len hr0 (by omega) (by omega)]
    omega
  have HV := Lib.hid (show padB 1 (k / 10) ++ (⟨#[46]⟩ ++ padB 1 (k % 10)) = ⟨(textD k 1).toArray⟩ by
    refine ByteArray.ext (Array.ext' ?_)
    rw [ByteArray.data_append, Array.toList_append, ByteArray.data_append, Array.toList_append]
    show padD 1 (k / 10) ++ ([46] ++ padD 1 (k % 10)) = textD k 1
    unfold textD
    rw [padD_one hq0, e2, if_neg (by decide)]
    rfl)
  generalize padB 1 (k / 10) = A1 at *
  generalize padB 1 (k % 10) = A2 at *
  clear ht hh e1 e2
  go_enter Tryz.func82, Tryz.ntmps82
  go_wp2_with (first | (go_at_call 84; refine (HO.out _).mono ?_; rintro e w1 ⟨rfl, rfl⟩) | (go_at_call 108; with_reducible refine (HD.out _ (HT.out.below hB)).mono ?_; rintro e wk ⟨rfl, hb⟩; replace hB := hB.trans (hb.mono hB.size); clear hb) | (go_at_call 108; with_reducible refine (HE.out _ (HT.out.below hB)).mono ?_; rintro e wk ⟨rfl, hb⟩; replace hB := hB.trans (hb.mono hB.size); clear hb))
  go_ret2
  exact ⟨by rw [← HV.out]; rfl, hB⟩
set_option maxHeartbeats 1000000 in
theorem vwritten2_no (v : Int) (w : World) (ht : Tab w) (h0 : 0 ≤ v) (h1 : v ≤ 65535) (hh : hasD v 2 = false) :
    Calls Tryz.prog 82 #[.int .i64 v, .int .i64 10, .int .i64 2] w fun e w' => e = .returned (.tuple #[.string ⟨#[]⟩, .bool false]) ∧ Below w.heap.size w w' := by
  have HT := Lib.hid ht
  have hB := Below.refl w.heap.size w
  obtain ⟨k0, k1, _, _⟩ := kOf_spec 2 h0 h1
  have hk : max (0 : Int) ((100000 * v - 50000 + 655350 - 1) / 655350) = kOf v (unitD 2) := by
    have : kOf v (unitD 2) = (100000 * v - 50000 + 655350 - 1) / 655350 := rfl
    rw [← this]; omega
  have e1 : unitD 2 = 10 := rfl
  have e2 : partD 2 = 100 := rfl
  unfold hasD at hh
  rw [e1] at hk k0 k1 hh
  generalize kOf v 10 = k at *
  have HO := Lib.hid (fun w => vof_any (k * 10) w (by omega) (by omega))
  rw [decide_eq_false_iff_not] at hh
  have g1 : (ofN (k * 10) == v) = false := by simpa using hh
  have g2 : (ofN (k * 10) != v) = true := by simpa using hh
  generalize ofN (k * 10) = y at *
  clear ht hh e1 e2 HT
  go_enter Tryz.func82, Tryz.ntmps82
  go_wp2_with (go_at_call 84; refine (HO.out _).mono ?_; rintro e w1 ⟨rfl, rfl⟩)
  go_ret2
  exact ⟨rfl, hB⟩
set_option maxHeartbeats 1000000 in
theorem vwritten2_yes (v : Int) (w : World) (ht : Tab w) (h0 : 0 ≤ v) (h1 : v ≤ 65535) (hh : hasD v 2 = true) :
    Calls Tryz.prog 82 #[.int .i64 v, .int .i64 10, .int .i64 2] w fun e w' => e = .returned (.tuple #[.string ⟨(textD (kOf v 10) 2).toArray⟩, .bool true]) ∧ Below w.heap.size w w' := by
  have HT := Lib.hid ht
  have hB := Below.refl w.heap.size w
  obtain ⟨k0, k1, _, _⟩ := kOf_spec 2 h0 h1
  have hk : max (0 : Int) ((100000 * v - 50000 + 655350 - 1) / 655350) = kOf v (unitD 2) := by
    have : kOf v (unitD 2) = (100000 * v - 50000 + 655350 - 1) / 655350 := rfl
    rw [← this]; omega
  have e1 : unitD 2 = 10 := rfl
  have e2 : partD 2 = 100 := rfl
  unfold hasD at hh
  rw [e1] at hk k0 k1 hh
  generalize kOf v 10 = k at *
  have HO := Lib.hid (fun w => vof_any (k * 10) w (by omega) (by omega))
  rw [decide_eq_true_eq] at hh

  rw [hh] at HO
  have hq0 : 0 ≤ k / 100 := by omega
  have hq1 : k / 100 ≤ 100 := by omega
  have HD := Lib.hid (fun w ht => vdecimal_any 1 1 (k / 100) rfl (by omega) hq0 (by omega) w ht)
  have hr0 : 0 ≤ k % 100 := by omega
  have hr1 : k % 100 < 100 := by omega
  have HE := Lib.hid (fun w ht => vdecimal_any 2 2 (k % 100) rfl (by omega) hr0 (by omega) w ht)
  have s1 : (padB 1 (k / 100)).size ≤ 10 := by
    rw [← bytes_len]
    show (padD 1 (k / 100)).length ≤ 10
    rw [padD_one hq0]
    have := itoa_lt (k := 3) hq0 (by omega) (by omega)
    omega
  have s2 : (padB 2 (k % 100)).size ≤ 10 := by
    rw [← bytes_len]
    show (padD 2 (k % 100)).length ≤ 10
    rw [padD_len hr0 (by omega) (by omega)]
    omega
  have HV := Lib.hid (show padB 1 (k / 100) ++ (⟨#[46]⟩ ++ padB 2 (k % 100)) = ⟨(textD k 2).toArray⟩ by
    refine ByteArray.ext (Array.ext' ?_)
    rw [ByteArray.data_append, Array.toList_append, ByteArray.data_append, Array.toList_append]
    show padD 1 (k / 100) ++ ([46] ++ padD 2 (k % 100)) = textD k 2
    unfold textD
    rw [padD_one hq0, e2, if_neg (by decide)]
    rfl)
  generalize padB 1 (k / 100) = A1 at *
  generalize padB 2 (k % 100) = A2 at *
  clear ht hh e1 e2
  go_enter Tryz.func82, Tryz.ntmps82
  go_wp2_with (first | (go_at_call 84; refine (HO.out _).mono ?_; rintro e w1 ⟨rfl, rfl⟩) | (go_at_call 108; with_reducible refine (HD.out _ (HT.out.below hB)).mono ?_; rintro e wk ⟨rfl, hb⟩; replace hB := hB.trans (hb.mono hB.size); clear hb) | (go_at_call 108; with_reducible refine (HE.out _ (HT.out.below hB)).mono ?_; rintro e wk ⟨rfl, hb⟩; replace hB := hB.trans (hb.mono hB.size); clear hb))
  go_ret2
  exact ⟨by rw [← HV.out]; rfl, hB⟩
set_option maxHeartbeats 1000000 in
theorem vwritten3_yes (v : Int) (w : World) (ht : Tab w) (h0 : 0 ≤ v) (h1 : v ≤ 65535) (hh : hasD v 3 = true) :
    Calls Tryz.prog 82 #[.int .i64 v, .int .i64 1, .int .i64 3] w fun e w' => e = .returned (.tuple #[.string ⟨(textD (kOf v 1) 3).toArray⟩, .bool true]) ∧ Below w.heap.size w w' := by
  have HT := Lib.hid ht
  have hB := Below.refl w.heap.size w
  obtain ⟨k0, k1, _, _⟩ := kOf_spec 3 h0 h1
  have hk : max (0 : Int) ((100000 * v - 50000 + 65535 - 1) / 65535) = kOf v (unitD 3) := by
    have : kOf v (unitD 3) = (100000 * v - 50000 + 65535 - 1) / 65535 := rfl
    rw [← this]; omega
  have e1 : unitD 3 = 1 := rfl
  have e2 : partD 3 = 1000 := rfl
  unfold hasD at hh
  rw [e1] at hk k0 k1 hh
  generalize kOf v 1 = k at *
  have HO := Lib.hid (fun w => vof_any (k) w (by omega) (by omega))
  rw [decide_eq_true_eq] at hh
  rw [Int.mul_one] at hh
  rw [hh] at HO
  have hq0 : 0 ≤ k / 1000 := by omega
  have hq1 : k / 1000 ≤ 100 := by omega
  have HD := Lib.hid (fun w ht => vdecimal_any 1 1 (k / 1000) rfl (by omega) hq0 (by omega) w ht)
  have hr0 : 0 ≤ k % 1000 := by omega
  have hr1 : k % 1000 < 1000 := by omega
  have HE := Lib.hid (fun w ht => vdecimal_any 3 3 (k % 1000) rfl (by omega) hr0 (by omega) w ht)
  have s1 : (padB 1 (k / 1000)).size ≤ 10 := by
    rw [← bytes_len]
    show (padD 1 (k / 1000)).length ≤ 10
    rw [padD_one hq0]
    have := itoa_lt (k := 3) hq0 (by omega) (by omega)
    omega
  have s2 : (padB 3 (k % 1000)).size ≤ 10 := by
    rw [← bytes_len]
    show (padD 3 (k % 1000)).length ≤ 10
    rw [padD_len hr0 (by omega) (by omega)]
    omega
  have HV := Lib.hid (show padB 1 (k / 1000) ++ (⟨#[46]⟩ ++ padB 3 (k % 1000)) = ⟨(textD k 3).toArray⟩ by
    refine ByteArray.ext (Array.ext' ?_)
    rw [ByteArray.data_append, Array.toList_append, ByteArray.data_append, Array.toList_append]
    show padD 1 (k / 1000) ++ ([46] ++ padD 3 (k % 1000)) = textD k 3
    unfold textD
    rw [padD_one hq0, e2, if_neg (by decide)]
    rfl)
  generalize padB 1 (k / 1000) = A1 at *
  generalize padB 3 (k % 1000) = A2 at *
  clear ht hh e1 e2
  go_enter Tryz.func82, Tryz.ntmps82
  go_wp2_with (first | (go_at_call 84; refine (HO.out _).mono ?_; rintro e w1 ⟨rfl, rfl⟩) | (go_at_call 108; with_reducible refine (HD.out _ (HT.out.below hB)).mono ?_; rintro e wk ⟨rfl, hb⟩; replace hB := hB.trans (hb.mono hB.size); clear hb) | (go_at_call 108; with_reducible refine (HE.out _ (HT.out.below hB)).mono ?_; rintro e wk ⟨rfl, hb⟩; replace hB := hB.trans (hb.mono hB.size); clear hb))
  go_ret2
  exact ⟨by rw [← HV.out]; rfl, hB⟩
set_option maxHeartbeats 1000000 in
theorem vcheck_any (v : Int) (w : World) :
    Calls Tryz.prog 81 #[.int .i64 v] w fun e w' => e = .returned (.int .i64 (if 0 ≤ v ∧ v ≤ 65535 then 0 else 2)) ∧ w = w' := by
  by_cases h0 : v < 0
  · rw [if_neg (by omega)]
    go_enter Tryz.func81, Tryz.ntmps81
    go_wp2
    go_ret
    exact ⟨rfl, rfl⟩
  · by_cases h1 : 65535 < v
    · rw [if_neg (by omega)]
      go_enter Tryz.func81, Tryz.ntmps81
      go_wp2
      go_ret
      exact ⟨rfl, rfl⟩
    · rw [if_pos (by omega)]
      go_enter Tryz.func81, Tryz.ntmps81
      go_wp2
      go_ret
      exact ⟨rfl, rfl⟩
set_option maxHeartbeats 1000000 in
theorem vtext_bad (v : Int) (w : World) (h : ¬ (0 ≤ v ∧ v ≤ 65535)) :
    Calls Tryz.prog 52 #[.int .i64 v] w fun e w' => e = .returned (.tuple #[.string ⟨#[]⟩, .int .i64 2]) ∧ Below w.heap.size w w' := by
  have hC := fun w => vcheck_any v w
  simp only [if_neg h] at hC
  have HC := Lib.hid hC
  clear hC h
  go_enter Tryz.func52, Tryz.ntmps52
  go_wp2_with (go_at_call 81; refine (HC.out _).mono ?_; rintro e w1 ⟨rfl, rfl⟩)
  go_ret2
  exact ⟨rfl, Below.refl _ _⟩

def AtT (v : Int) (uv dv : Value) : Prop :=
  (uv = .int .i64 1000 ∧ dv = .int .i64 0) ∨ (uv = .int .i64 100 ∧ dv = .int .i64 1 ∧ hasD v 0 = false) ∨
  (uv = .int .i64 10 ∧ dv = .int .i64 2 ∧ hasD v 0 = false ∧ hasD v 1 = false) ∨ (uv = .int .i64 1 ∧ dv = .int .i64 3 ∧ hasD v 0 = false ∧ hasD v 1 = false ∧ hasD v 2 = false)
set_option maxRecDepth 100000 in
set_option maxHeartbeats 4000000 in
theorem vtext_ok (v : Int) (w : World) (ht : Tab w) (h0 : 0 ≤ v) (h1 : v ≤ 65535) :
    Calls Tryz.prog 52 #[.int .i64 v] w fun e w' => e = .returned (.tuple #[.string ⟨(namedT v).toArray⟩, .int .i64 0]) ∧ Below w.heap.size w w' := by
  have hB := Below.refl w.heap.size w
  have HT := Lib.hid ht
  have hC := fun w => vcheck_any v w
  simp only [if_pos (And.intro h0 h1)] at hC
  have HC := Lib.hid hC
  by_cases hv : v = 65535
  · subst hv
    have HV := Lib.hid (show (⟨#[102, 117, 108, 108]⟩ : ByteArray) = ⟨(namedT 65535).toArray⟩ by rfl)
    clear hC h0 h1 ht
    go_enter Tryz.func52, Tryz.ntmps52
    go_wp2_with (go_at_call 81; refine (HC.out _).mono ?_; rintro e w1 ⟨rfl, rfl⟩)
    go_ret2
    exact ⟨by rw [← HV.out]; rfl, hB⟩
  have g1 : (v == 65535) = false := by simpa using hv
  have hnm : namedT v = textD (kOf v (unitD (decsOf v))) (decsOf v) := by unfold namedT; rw [if_neg hv]
  have hlast := has_last h0 (by omega)
  have Y0 := Lib.hid (fun hh w ht => vwritten0_yes v w ht h0 h1 hh)
  have Y1 := Lib.hid (fun hh w ht => vwritten1_yes v w ht h0 h1 hh)
  have Y2 := Lib.hid (fun hh w ht => vwritten2_yes v w ht h0 h1 hh)
  have Y3 := Lib.hid (fun w ht => vwritten3_yes v w ht h0 h1 hlast)
  have N0 := Lib.hid (fun hh w ht => vwritten0_no v w ht h0 h1 hh)
  have N1 := Lib.hid (fun hh w ht => vwritten1_no v w ht h0 h1 hh)
  have N2 := Lib.hid (fun hh w ht => vwritten2_no v w ht h0 h1 hh)
  have HNm := Lib.hid hnm
  clear hC h0 h1 ht hv hnm hlast
  go_enter Tryz.func52, Tryz.ntmps52
  go_wp2_with (go_at_call 81; refine (HC.out _).mono ?_; rintro e w1 ⟨rfl, rfl⟩)
  go_loopw [5, 6] (fun uv dv wr => AtT v uv dv ∧ Below w.heap.size w wr) (fun _ dv _ => 3 - (intOf dv).toNat)
  case atStart => exact ⟨.inl ⟨rfl, rfl⟩, hB⟩
  case round =>
    obtain ⟨hat, hB⟩ := hrel
    unfold AtT at hat
    rcases hat with ⟨rfl, rfl⟩ | ⟨rfl, rfl, a0⟩ | ⟨rfl, rfl, a0, a1⟩ | ⟨rfl, rfl, a0, a1, a2⟩
    · cases hd : hasD v 0
      · have HN := Lib.hid (N0.out hd)
        have HD := Lib.hid hd
        clear hd
        go_wp2_with (go_at_call 82; with_reducible refine (HN.out _ (HT.out.below hB)).mono ?_; rintro e wk ⟨rfl, hb⟩; replace hB := hB.trans (hb.mono hB.size); clear hb)
        go_roundw
        case rel => exact ⟨.inr (.inl ⟨by go_num, by go_num, HD.out⟩), hB⟩
        case measure => first | (simp [intOf]; omega) | simp [intOf]
      · have HY := Lib.hid (Y0.out hd)
        have HV := Lib.hid (show namedT v = textD (kOf v 1000) 0 by rw [HNm.out, show decsOf v = 0 by unfold decsOf; rw [hd]; rfl]; rfl)
        clear hd
        go_wp2_with (go_at_call 82; with_reducible refine (HY.out _ (HT.out.below hB)).mono ?_; rintro e wk ⟨rfl, hb⟩; replace hB := hB.trans (hb.mono hB.size); clear hb)
        go_ret2
        exact ⟨by rw [HV.out]; rfl, hB⟩
    · cases hd : hasD v 1
      · have HN := Lib.hid (N1.out hd)
        have HD := Lib.hid hd
        have HA := Lib.hid a0
        clear hd a0
        go_wp2_with (go_at_call 82; with_reducible refine (HN.out _ (HT.out.below hB)).mono ?_; rintro e wk ⟨rfl, hb⟩; replace hB := hB.trans (hb.mono hB.size); clear hb)
        go_roundw
        case rel => exact ⟨.inr (.inr (.inl ⟨by go_num, by go_num, HA.out, HD.out⟩)), hB⟩
        case measure => first | (simp [intOf]; omega) | simp [intOf]
      · have HY := Lib.hid (Y1.out hd)
        have HV := Lib.hid (show namedT v = textD (kOf v 100) 1 by rw [HNm.out, show decsOf v = 1 by unfold decsOf; rw [hd, a0]; rfl]; rfl)
        clear hd a0
        go_wp2_with (go_at_call 82; with_reducible refine (HY.out _ (HT.out.below hB)).mono ?_; rintro e wk ⟨rfl, hb⟩; replace hB := hB.trans (hb.mono hB.size); clear hb)
        go_ret2
        exact ⟨by rw [HV.out]; rfl, hB⟩
    · cases hd : hasD v 2
      · have HN := Lib.hid (N2.out hd)
        have HD := Lib.hid hd
        have HA := Lib.hid a0
        have HA1 := Lib.hid a1
        clear hd a0 a1
        go_wp2_with (go_at_call 82; with_reducible refine (HN.out _ (HT.out.below hB)).mono ?_; rintro e wk ⟨rfl, hb⟩; replace hB := hB.trans (hb.mono hB.size); clear hb)
        go_roundw
        case rel => exact ⟨.inr (.inr (.inr ⟨by go_num, by go_num, HA.out, HA1.out, HD.out⟩)), hB⟩
        case measure => first | (simp [intOf]; omega) | simp [intOf]
      · have HY := Lib.hid (Y2.out hd)
        have HV := Lib.hid (show namedT v = textD (kOf v 10) 2 by rw [HNm.out, show decsOf v = 2 by unfold decsOf; rw [hd, a0, a1]; rfl]; rfl)
        clear hd a0 a1
        go_wp2_with (go_at_call 82; with_reducible refine (HY.out _ (HT.out.below hB)).mono ?_; rintro e wk ⟨rfl, hb⟩; replace hB := hB.trans (hb.mono hB.size); clear hb)
        go_ret2
        exact ⟨by rw [HV.out]; rfl, hB⟩
    · have HV := Lib.hid (show namedT v = textD (kOf v 1) 3 by rw [HNm.out, show decsOf v = 3 by unfold decsOf; rw [a2, a0, a1]; rfl]; rfl)
      clear a0 a1 a2
      go_wp2_with (go_at_call 82; with_reducible refine (Y3.out _ (HT.out.below hB)).mono ?_; rintro e wk ⟨rfl, hb⟩; replace hB := hB.trans (hb.mono hB.size); clear hb)
      go_ret2
      exact ⟨by rw [HV.out]; rfl, hB⟩
end Go.Proofs.YtjnhdimllllgaaaGreatDoor

namespace Go.Proofs.YtjnhdimllllgaaaGreatDoor
open Go.RowKit

def InL (r : Rat) : Prop := 0 ≤ r ∧ r ≤ 65535
instance (r : Rat) : Decidable (InL r) := by unfold InL; infer_instance

def errLv (s : BT) : Int := if chkR s ≠ 0 then chkR s else if InL (valR s) then 0 else 2
theorem floor_neg {r : Rat} (h : r < 0) : r.floor < 0 := by
  have := Rat.floor_le r
  have c0 : ((0 : Int) : Rat) = 0 := rfl
  have h2 : (r.floor : Rat) < ((0 : Int) : Rat) := by rw [c0]; grind
  exact cast_lt.1 h2
theorem floor_low {r : Rat} {z : Int} (h : (z : Rat) ≤ r) : z ≤ r.floor := by
  obtain ⟨_, h2⟩ := floor_bd r
  have : (z : Rat) < ((r.floor + 1 : Int) : Rat) := by
    rw [Rat.intCast_add]
    have c1 : ((1 : Int) : Rat) = 1 := rfl
    rw [c1]
    grind
  have := cast_lt.1 this
  omega
theorem inL_floor {r : Rat} : InL r ↔ (0 ≤ r.floor ∧ r.floor ≤ 65535 ∧ (r.floor = 65535 → r = (r.floor : Rat))) := by
  obtain ⟨h1, h2⟩ := floor_bd r
  have c0 : ((0 : Int) : Rat) = 0 := rfl
  have c1 : ((65535 : Int) : Rat) = 65535 := rfl
  constructor
  · rintro ⟨a, b⟩
    refine ⟨floor_low (z := 0) a, cast_le.1 (Rat.le_trans h1 b), fun h => ?_⟩
    rw [h] at h1 ⊢
    exact Rat.le_antisymm b h1
  · rintro ⟨a, b, c⟩
    refine ⟨Rat.le_trans (cast_le.2 a) h1, ?_⟩
    by_cases h : r.floor = 65535
    · rw [c h, h]; exact Rat.le_refl
    · have : ((r.floor + 1 : Int) : Rat) ≤ ((65535 : Int) : Rat) := cast_le.2 (by omega)
      rw [Rat.intCast_add, c1] at this
      exact Rat.le_trans (Rat.le_of_lt h2) this
theorem near_bd {r : Rat} (h : InL r) : 0 ≤ (r + halfR).floor ∧ (r + halfR).floor ≤ 65535 := by
  obtain ⟨a, b, c⟩ := inL_floor.1 h
  rcases near_cases r with ⟨e, _⟩ | ⟨e, h2⟩
  · rw [e]; omega
  · rw [e]
    refine ⟨by omega, ?_⟩
    by_cases h3 : r.floor = 65535
    · exfalso
      have h4 := c h3
      generalize (r.floor : Rat) = q at *
      subst h4
      grind
    · omega
theorem sR_eq_sI (r : Rat) (z : Int) : ((sR r).toList == (sI z).toList) = decide (r = (z : Rat)) := by
  rw [ByteArray.toList_eq, ByteArray.toList_eq, Bool.eq_iff_iff, beq_iff_eq, decide_eq_true_eq, ← sR_int]
  exact ⟨fun h => rT_inj h, fun h => by rw [h]⟩
theorem smallT_sI {x : Int} (h : Fit x) : smallT (sI x).data.toList = if -9223372036854775808 ≤ x ∧ x ≤ 9223372036854775807 then (x, 0) else (0, 2) := by
  unfold smallT
  rw [if_neg (by simpa using chkI_sI h), valI_sI]
theorem small_s {x : Int} (h : Fit x) (w : World) (hr : Rng w) :
    Calls Tryz.prog 104 #[.string (sI x)] w fun e w' => e = .returned (.tuple #[.int .i64 (smallT (sI x).data.toList).1, .int .i64 (smallT (sI x).data.toList).2]) ∧ Below w.heap.size w w' :=
  small_any (sI x) w (Nat.le_trans (sI_size h) (by decide)) hr
set_option maxHeartbeats 1000000 in
theorem vhalves_bad (s : ByteArray) (w : World) (hs : s.size ≤ 1000000000) (ht : Tab w) (hc : chkR s.data.toList ≠ 0) :
    Calls Tryz.prog 77 #[.string s] w fun e w' => e = .returned (.tuple #[.int .i64 0, .int .i64 0, .int .i64 (chkR s.data.toList)]) ∧ Below w.heap.size w w' := by
  have HC := Lib.hid (qfloor_bad s w hs ht hc)
  generalize chkR s.data.toList = k at *
  have g1 : (k == 0) = false := by simpa using hc
  have g2 : (k != 0) = true := by simpa using hc
  clear hc ht
  go_enter Tryz.func77, Tryz.ntmps77
  go_wp2_with (go_at_call 102; refine HC.out.mono ?_; rintro e w1 ⟨rfl, hb1⟩)
  go_ret3
  exact ⟨rfl, hb1⟩
set_option maxHeartbeats 4000000 in
theorem vhalves_out {k : Nat} {r : Rat} (hr : SzR k r) (hk : k ≤ 4000) (w : World) (ht : Tab w) (hg : Rng w) (ho : ¬ InL r) :
    Calls Tryz.prog 77 #[.string (sR r)] w fun e w' => e = .returned (.tuple #[.int .i64 0, .int .i64 0, .int .i64 2]) ∧ Below w.heap.size w w' := by
  have hB := Below.refl w.heap.size w
  have HT := Lib.hid ht
  have HRg := Lib.hid hg
  have hf := hr.fit (by omega)
  have ff0 : Fit r.floor := by have := fdiv_fit (x := r.num) (y := (r.den : Int)) hf.1 (by have := r.den_pos; omega); rw [floor_fdiv] at this; exact this
  have HFl := Lib.hid (fun w ht => qfloor_fit hf w ht)
  have HRo := Lib.hid (fun w ht => qround_fit hr w ht hk)
  have hS := fun w hg => small_s ff0 w hg
  rw [smallT_sI ff0] at hS
  rw [inL_floor] at ho
  have g1 := sR_eq_sI r r.floor
  generalize sI (r + halfR).floor = R2 at *
  by_cases hi : -9223372036854775808 ≤ r.floor ∧ r.floor ≤ 9223372036854775807
  · rw [if_pos hi] at hS
    have HS := Lib.hid hS
    by_cases h1 : r.floor < 0
    · clear hi hf ff0 hr hk ht hg ho hS g1
      generalize r.floor = f at *
      go_enter Tryz.func77, Tryz.ntmps77
      go_wp2_with (first | (go_at_call 102; with_reducible refine (HFl.out _ (HT.out.below hB)).mono ?_; rintro e wk ⟨rfl, hb⟩; replace hB := hB.trans (hb.mono hB.size); clear hb) | (go_at_call 103; with_reducible refine (HRo.out _ (HT.out.below hB)).mono ?_; rintro e wk ⟨rfl, hb⟩; replace hB := hB.trans (hb.mono hB.size); clear hb) | (go_at_call 104; with_reducible refine (HS.out _ (HRg.out.below hB)).mono ?_; rintro e wk ⟨rfl, hb⟩; replace hB := hB.trans (hb.mono hB.size); clear hb))
      go_ret3
      exact ⟨rfl, hB⟩
    · by_cases h2 : 65535 < r.floor
      · clear hi hf ff0 hr hk ht hg ho hS g1
        generalize r.floor = f at *
        go_enter Tryz.func77, Tryz.ntmps77
        go_wp2_with (first | (go_at_call 102; with_reducible refine (HFl.out _ (HT.out.below hB)).mono ?_; rintro e wk ⟨rfl, hb⟩; replace hB := hB.trans (hb.mono hB.size); clear hb) | (go_at_call 103; with_reducible refine (HRo.out _ (HT.out.below hB)).mono ?_; rintro e wk ⟨rfl, hb⟩; replace hB := hB.trans (hb.mono hB.size); clear hb) | (go_at_call 104; with_reducible refine (HS.out _ (HRg.out.below hB)).mono ?_; rintro e wk ⟨rfl, hb⟩; replace hB := hB.trans (hb.mono hB.size); clear hb))
        go_ret3
        exact ⟨rfl, hB⟩
      · have h3 : r.floor = 65535 ∧ r ≠ (r.floor : Rat) := by
          by_cases h4 : r.floor = 65535 ∧ r ≠ (r.floor : Rat)
          · exact h4
          · exfalso
            apply ho
            refine ⟨by omega, by omega, fun h5 => ?_⟩
            by_cases h6 : r = (r.floor : Rat)
            · exact h6
            · exact absurd ⟨h5, h6⟩ h4
        rw [decide_eq_false h3.2] at g1
        have g2 : ((sR r).toList != (sI r.floor).toList) = true := by rw [bne, g1]; rfl
        have h4 := h3.1
        clear hi hf ff0 hr hk ht hg ho hS h3
        generalize r.floor = f at *
        subst h4
        go_enter Tryz.func77, Tryz.ntmps77
        go_wp2_with (first | (go_at_call 102; with_reducible refine (HFl.out _ (HT.out.below hB)).mono ?_; rintro e wk ⟨rfl, hb⟩; replace hB := hB.trans (hb.mono hB.size); clear hb) | (go_at_call 103; with_reducible refine (HRo.out _ (HT.out.below hB)).mono ?_; rintro e wk ⟨rfl, hb⟩; replace hB := hB.trans (hb.mono hB.size); clear hb) | (go_at_call 104; with_reducible refine (HS.out _ (HRg.out.below hB)).mono ?_; rintro e wk ⟨rfl, hb⟩; replace hB := hB.trans (hb.mono hB.size); clear hb))
        go_ret3
        exact ⟨rfl, hB⟩
  · rw [if_neg hi] at hS
    have HS := Lib.hid hS
    clear hi hf ff0 hr hk ht hg ho hS g1
    generalize r.floor = f at *
    go_enter Tryz.func77, Tryz.ntmps77
    go_wp2_with (first | (go_at_call 102; with_reducible refine (HFl.out _ (HT.out.below hB)).mono ?_; rintro e wk ⟨rfl, hb⟩; replace hB := hB.trans (hb.mono hB.size); clear hb) | (go_at_call 103; with_reducible refine (HRo.out _ (HT.out.below hB)).mono ?_; rintro e wk ⟨rfl, hb⟩; replace hB := hB.trans (hb.mono hB.size); clear hb) | (go_at_call 104; with_reducible refine (HS.out _ (HRg.out.below hB)).mono ?_; rintro e wk ⟨rfl, hb⟩; replace hB := hB.trans (hb.mono hB.size); clear hb))
    go_ret3
    exact ⟨rfl, hB⟩
set_option maxHeartbeats 4000000 in
theorem vhalves_ok {k : Nat} {r : Rat} (hr : SzR k r) (hk : k ≤ 4000) (w : World) (ht : Tab w) (hg : Rng w) (ho : InL r) :
    Calls Tryz.prog 77 #[.string (sR r)] w fun e w' => e = .returned (.tuple #[.int .i64 r.floor, .int .i64 (r + halfR).floor, .int .i64 0]) ∧ Below w.heap.size w w' := by
  have hB := Below.refl w.heap.size w
  have HT := Lib.hid ht
  have HRg := Lib.hid hg
  have hf := hr.fit (by omega)
  have HFl := Lib.hid (fun w ht => qfloor_fit hf w ht)
  have HRo := Lib.hid (fun w ht => qround_fit hr w ht hk)
  obtain ⟨b0, b1⟩ := near_bd ho
  obtain ⟨a0, a1, a2⟩ := inL_floor.1 ho
  have fa : Fit r.floor := fit_int (by omega) (by omega)
  have fb : Fit (r + halfR).floor := fit_int (by omega) (by omega)
  have hS := fun w hg => small_s fa w hg
  have hS2 := fun w hg => small_s fb w hg
  rw [smallT_sI fa, if_pos (by omega)] at hS
  rw [smallT_sI fb, if_pos (by omega)] at hS2
  have HS := Lib.hid hS
  have HS2 := Lib.hid hS2
  have g1 := sR_eq_sI r r.floor
  by_cases h : r.floor = 65535
  · rw [decide_eq_true (a2 h)] at g1
    have g2 : ((sR r).toList != (sI r.floor).toList) = false := by rw [bne, g1]; rfl
    clear hf hr hk ht hg ho hS hS2 fa fb a0 a1 a2 b0 b1
    generalize (r + halfR).floor = g at *
    generalize r.floor = f at *
    subst h
    go_enter Tryz.func77, Tryz.ntmps77
    go_wp2_with (first | (go_at_call 102; with_reducible refine (HFl.out _ (HT.out.below hB)).mono ?_; rintro e wk ⟨rfl, hb⟩; replace hB := hB.trans (hb.mono hB.size); clear hb) | (go_at_call 103; with_reducible refine (HRo.out _ (HT.out.below hB)).mono ?_; rintro e wk ⟨rfl, hb⟩; replace hB := hB.trans (hb.mono hB.size); clear hb) | (go_at_call 104; with_reducible refine (HS.out _ (HRg.out.below hB)).mono ?_; rintro e wk ⟨rfl, hb⟩; replace hB := hB.trans (hb.mono hB.size); clear hb) | (go_at_call 104; with_reducible refine (HS2.out _ (HRg.out.below hB)).mono ?_; rintro e wk ⟨rfl, hb⟩; replace hB := hB.trans (hb.mono hB.size); clear hb))
    go_ret3
    exact ⟨rfl, hB⟩
  · have g3 : (r.floor == 65535) = false := by simpa using h
    clear hf hr hk ht hg ho hS hS2 fa fb a2 b0 b1 g1 h
    generalize (r + halfR).floor = g at *
    generalize r.floor = f at *
    go_enter Tryz.func77, Tryz.ntmps77
    go_wp2_with (first | (go_at_call 102; with_reducible refine (HFl.out _ (HT.out.below hB)).mono ?_; rintro e wk ⟨rfl, hb⟩; replace hB := hB.trans (hb.mono hB.size); clear hb) | (go_at_call 103; with_reducible refine (HRo.out _ (HT.out.below hB)).mono ?_; rintro e wk ⟨rfl, hb⟩; replace hB := hB.trans (hb.mono hB.size); clear hb) | (go_at_call 104; with_reducible refine (HS.out _ (HRg.out.below hB)).mono ?_; rintro e wk ⟨rfl, hb⟩; replace hB := hB.trans (hb.mono hB.size); clear hb) | (go_at_call 104; with_reducible refine (HS2.out _ (HRg.out.below hB)).mono ?_; rintro e wk ⟨rfl, hb⟩; replace hB := hB.trans (hb.mono hB.size); clear hb))
    go_ret3
    exact ⟨rfl, hB⟩
end Go.Proofs.YtjnhdimllllgaaaGreatDoor

namespace Go.Proofs.YtjnhdimllllgaaaGreatDoor
open Go.RowKit

def eightT (s : BT) : Int × Int := if errLv s ≠ 0 then (0, errLv s) else ((valR s * Rat.divInt 255 65535 + halfR).floor, 0)
def sixteenT (s : BT) : Int × Int := if errLv s ≠ 0 then (0, errLv s) else ((valR s + halfR).floor, 0)

theorem lev_cases (s : ByteArray) (hs : s.size ≤ 1000) : (chkR s.data.toList ≠ 0 ∧ errLv s.data.toList = chkR s.data.toList) ∨
    (∃ r, s = sR r ∧ SzR 1000 r ∧ valR s.data.toList = r ∧ chkR s.data.toList = 0 ∧ ((¬ InL r ∧ errLv s.data.toList = 2) ∨ (InL r ∧ errLv s.data.toList = 0))) := by
  unfold errLv
  by_cases hc : chkR s.data.toList = 0
  · obtain ⟨e, _⟩ := chkR_ok hc
    have hs' := sR_of e
    refine .inr ⟨valR s.data.toList, hs', size_SzR hs' hs (by omega), rfl, hc, ?_⟩
    rw [if_neg (by simpa using hc)]
    by_cases h : InL (valR s.data.toList)
    · rw [if_pos h]; exact .inr ⟨h, rfl⟩
    · rw [if_neg h]; exact .inl ⟨h, rfl⟩
  · exact .inl ⟨hc, by rw [if_pos hc]⟩
set_option maxHeartbeats 4000000 in
theorem veight_any (s : ByteArray) (w : World) (hs : s.size ≤ 1000) (ht : Tab w) (hg : Rng w) :
    Calls Tryz.prog 44 #[.string s] w fun e w' => e = .returned (.tuple #[.int .i64 (eightT s.data.toList).1, .int .i64 (eightT s.data.toList).2]) ∧ Below w.heap.size w w' := by
  rcases lev_cases s hs with ⟨hc, he⟩ | ⟨r, hr, hz, hv, hc, ⟨hi, he⟩ | ⟨hi, he⟩⟩
  · have HV := Lib.hid (show eightT s.data.toList = (0, chkR s.data.toList) by unfold eightT; rw [he, if_pos hc])
    have HC := Lib.hid (vhalves_bad s w (by omega) ht hc)
    generalize chkR s.data.toList = k at *
    have g1 : (k == 0) = false := by simpa using hc
    have g2 : (k != 0) = true := by simpa using hc
    clear hc he ht hg
    go_enter Tryz.func44, Tryz.ntmps44
    go_wp2_with (go_at_call 77; refine HC.out.mono ?_; rintro e w1 ⟨rfl, hb1⟩)
    go_ret2
    exact ⟨by rw [HV.out]; rfl, hb1⟩
  · have HV := Lib.hid (show eightT s.data.toList = (0, 2) by unfold eightT; rw [he, if_pos (by decide)])
    subst hr
    have HC := Lib.hid (vhalves_out hz (by omega) w ht hg hi)
    clear hc he ht hg hi hv hz
    go_enter Tryz.func44, Tryz.ntmps44
    go_wp2_with (go_at_call 77; refine HC.out.mono ?_; rintro e w1 ⟨rfl, hb1⟩)
    go_ret2
    exact ⟨by rw [HV.out]; rfl, hb1⟩
  · have HV := Lib.hid (show eightT s.data.toList = ((r.floor + (r + halfR).floor + 257) / 514, 0) by unfold eightT; rw [he, if_neg (by decide), hv, eight_floor])
    subst hr
    have HC := Lib.hid (vhalves_ok hz (by omega) w ht hg hi)
    obtain ⟨b0, b1⟩ := near_bd hi
    obtain ⟨a0, a1, _⟩ := inL_floor.1 hi
    generalize (r + halfR).floor = g at *
    generalize r.floor = f at *
    clear hc he ht hg hi hv hz
    go_enter Tryz.func44, Tryz.ntmps44
    go_wp2_with (go_at_call 77; refine HC.out.mono ?_; rintro e w1 ⟨rfl, hb1⟩)
    go_ret2
    exact ⟨by rw [HV.out]; rfl, hb1⟩
set_option maxHeartbeats 4000000 in
theorem vsixteen_any (s : ByteArray) (w : World) (hs : s.size ≤ 1000) (ht : Tab w) (hg : Rng w) :
    Calls Tryz.prog 45 #[.string s] w fun e w' => e = .returned (.tuple #[.int .i64 (sixteenT s.data.toList).1, .int .i64 (sixteenT s.data.toList).2]) ∧ Below w.heap.size w w' := by
  rcases lev_cases s hs with ⟨hc, he⟩ | ⟨r, hr, hz, hv, hc, ⟨hi, he⟩ | ⟨hi, he⟩⟩
  · have HV := Lib.hid (show sixteenT s.data.toList = (0, chkR s.data.toList) by unfold sixteenT; rw [he, if_pos hc])
    have HC := Lib.hid (vhalves_bad s w (by omega) ht hc)
    generalize chkR s.data.toList = k at *
    clear hc he ht hg
    go_enter Tryz.func45, Tryz.ntmps45
    go_wp2_with (go_at_call 77; refine HC.out.mono ?_; rintro e w1 ⟨rfl, hb1⟩)
    go_ret2
    exact ⟨by rw [HV.out]; rfl, hb1⟩
  · have HV := Lib.hid (show sixteenT s.data.toList = (0, 2) by unfold sixteenT; rw [he, if_pos (by decide)])
    subst hr
    have HC := Lib.hid (vhalves_out hz (by omega) w ht hg hi)
    clear hc he ht hg hi hv hz
    go_enter Tryz.func45, Tryz.ntmps45
    go_wp2_with (go_at_call 77; refine HC.out.mono ?_; rintro e w1 ⟨rfl, hb1⟩)
    go_ret2
    exact ⟨by rw [HV.out]; rfl, hb1⟩
  · have HV := Lib.hid (show sixteenT s.data.toList = ((r + halfR).floor, 0) by unfold sixteenT; rw [he, if_neg (by decide), hv])
    subst hr
    have HC := Lib.hid (vhalves_ok hz (by omega) w ht hg hi)
    generalize (r + halfR).floor = g at *
    generalize r.floor = f at *
    clear hc he ht hg hi hv hz
    go_enter Tryz.func45, Tryz.ntmps45
    go_wp2_with (go_at_call 77; refine HC.out.mono ?_; rintro e w1 ⟨rfl, hb1⟩)
    go_ret2
    exact ⟨by rw [HV.out]; rfl, hb1⟩
theorem sR_zero : (⟨#[48]⟩ : ByteArray) = sR 0 := by
  have h : ((0 : Int) : Rat) = 0 := rfl
  rw [← h, sR_int]
  unfold sI
  rw [itoa_zero]
theorem sz_zero : SzR 1 0 := by
  unfold SzR
  decide
theorem max_cast : ((65535 : Int) : Rat) = 65535 := rfl
theorem sz_max : SzR 5 ((65535 : Int) : Rat) := SzR.int (by decide) (by omega)
theorem inL_ord {r : Rat} : InL r ↔ (¬ ordR r 0 < 0 ∧ ¬ 0 < ordR r ((65535 : Int) : Rat)) := by
  rw [ordR_neg, ordR_pos, max_cast]
  exact ⟨fun h => ⟨Rat.not_lt.2 h.1, Rat.not_lt.2 h.2⟩, fun h => ⟨Rat.not_lt.1 h.1, Rat.not_lt.1 h.2⟩⟩
theorem intT_in {x : Int} (h0 : -9223372036854775808 ≤ x) (h1 : x ≤ 9223372036854775807) : intT x = (x, true) := by unfold intT; rw [if_pos ⟨h0, h1⟩]
theorem eight_bd {r : Rat} (h : InL r) : 0 ≤ (r * Rat.divInt 255 65535 + halfR).floor ∧ (r * Rat.divInt 255 65535 + halfR).floor ≤ 255 := by
  rw [eight_floor]
  obtain ⟨b0, b1⟩ := near_bd h
  obtain ⟨a0, a1, _⟩ := inL_floor.1 h
  omega
theorem over_sz : SzR 5 (Rat.divInt 255 65535) := SzR.red (by decide) (by decide) (by decide)
end Go.Proofs.YtjnhdimllllgaaaGreatDoor
