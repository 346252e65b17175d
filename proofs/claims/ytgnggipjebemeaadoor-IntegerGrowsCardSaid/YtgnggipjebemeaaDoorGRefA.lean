/- Lemmas and contracts of functions, joined for the claim: RBody, RCheck, RNum, RCmp, RWords, RText. -/
import Derived.Test.YtgnggipjebemeaaDoorGPlain
import Derived.Test.YtgnggipjebemeaaDoorGWord
import Derived.BigQuiet
import Derived.Deep.QuietTactic
import Derived.Lib.UnsafeStr
namespace Go.Proofs.YtgnggipjebemeaaDoor
open Go.RowKit

theorem bytes_len (s : ByteArray) : s.data.toList.length = s.size := by simp
theorem bs_of {a : ByteArray} {l : BT} (h : a.data.toList = l) : a = ⟨l.toArray⟩ := by
  obtain ⟨⟨x⟩⟩ := a
  simp at h
  rw [h]
theorem bs_eq {a b : ByteArray} (h : a.data.toList = b.data.toList) : a = b := ByteArray.ext (Array.ext' h)
theorem neg_iff (s : ByteArray) (h : 0 < s.size) : negT s.data.toList = true ↔ (s[0].toNat : Int) = 45 := by
  have hh : s.data.toList.head? = some s[0] := by
    rw [List.head?_eq_getElem?, List.getElem?_eq_getElem (by simpa using h)]; rfl
  generalize s[0] = c at *
  cases hl : s.data.toList with
  | nil => rw [hl] at hh; cases hh
  | cons x t =>
    rw [hl] at hh
    injection hh with hh
    subst hh
    constructor
    · intro hn
      by_cases hx : x = 45
      · subst hx; rfl
      · rw [negT_other hx] at hn; cases hn
    · intro hx
      have : x = 45 := UInt8.toNat_inj.1 (by show x.toNat = 45; omega)
      subst this; rfl
theorem neg_empty (s : ByteArray) (h : s.size = 0) : negT s.data.toList = false ∧ bodyT s.data.toList = [] := by
  have : s.data.toList = [] := List.length_eq_zero_iff.1 (by rw [bytes_len]; exact h)
  rw [this]
  exact ⟨rfl, rfl⟩
theorem tail1 (s : ByteArray) : (s.extract 1 s.size).data.toList = s.data.toList.drop 1 := by
  rw [ByteArray.data_extract, Array.toList_extract, List.extract_eq_take_drop]
  apply List.take_of_length_le
  simp

set_option maxHeartbeats 1000000 in
theorem rbody_any (s : ByteArray) (w : World) (hs : s.size ≤ 9223372036854775807) :
    Calls Tryd.prog 29 #[.string s] w fun e w' => e = .returned (.string ⟨(bodyT s.data.toList).toArray⟩) ∧ Below w.heap.size w w' := by
  by_cases h0 : 0 < s.size
  · have hsp := text_split s.data.toList
    by_cases h1 : (s[0].toNat : Int) = 45
    · have HB := Lib.hid (show s.extract 1 s.size = ⟨(bodyT s.data.toList).toArray⟩ from bs_of (by rw [tail1]; rw [(neg_iff s h0).2 h1, if_pos rfl] at hsp; generalize s.data.toList = l at *; rw [hsp]; rfl))
      have g1 : ((s[0].toNat : Int) == 45) = true := by simpa using h1
      clear hsp
      go_enter Tryd.func29, Tryd.ntmps29
      go_wp2
      go_ret
      exact ⟨by rw [← HB.out]; rfl, by (repeat (first | exact Below.refl _ _ | assumption | apply Below.drew | apply below_drewN | (refine Below.alloc ?_ (by first | omega | (simp; omega) | simp) _) | (refine Below.setCell ?_ (by first | omega | (simp; omega) | simp) _) | (refine Below.trans ?_ (Below.mono (by assumption) (by first | omega | (simp; omega) | simp)))))⟩
    · have hn : negT s.data.toList = false := by
        cases hh : negT s.data.toList with
        | false => rfl
        | true => exact absurd ((neg_iff s h0).1 hh) h1
      have HB := Lib.hid (show s = ⟨(bodyT s.data.toList).toArray⟩ from bs_of (by rw [hn, if_neg (by simp)] at hsp; exact hsp))
      have g1 : ((s[0].toNat : Int) == 45) = false := by simpa using h1
      clear hsp hn
      go_enter Tryd.func29, Tryd.ntmps29
      go_wp2
      go_ret
      exact ⟨by rw [← HB.out]; rfl, by (repeat (first | exact Below.refl _ _ | assumption | apply Below.drew | apply below_drewN | (refine Below.alloc ?_ (by first | omega | (simp; omega) | simp) _) | (refine Below.setCell ?_ (by first | omega | (simp; omega) | simp) _) | (refine Below.trans ?_ (Below.mono (by assumption) (by first | omega | (simp; omega) | simp)))))⟩
  · have h0' : s.size = 0 := by omega
    have HB := Lib.hid (show s = ⟨(bodyT s.data.toList).toArray⟩ from bs_of (by rw [(neg_empty s h0').2]; exact List.length_eq_zero_iff.1 (by rw [bytes_len]; exact h0')))
    go_enter Tryd.func29, Tryd.ntmps29
    go_wp2
    go_ret
    exact ⟨by rw [← HB.out]; rfl, by (repeat (first | exact Below.refl _ _ | assumption | apply Below.drew | apply below_drewN | (refine Below.alloc ?_ (by first | omega | (simp; omega) | simp) _) | (refine Below.setCell ?_ (by first | omega | (simp; omega) | simp) _) | (refine Below.trans ?_ (Below.mono (by assumption) (by first | omega | (simp; omega) | simp)))))⟩

theorem is_zero (s : ByteArray) : (s.toList == [48]) = decide (s.data.toList = [48]) := by
  rw [ByteArray.toList_eq, Bool.eq_iff_iff]
  simp

def sgnT (s : BT) : Int := if s = [48] then 0 else if negT s = true then -1 else 1
theorem sgnT_itoa (z : Int) : sgnT (Lib.itoa z) = z.sign := by
  unfold sgnT
  rw [negT_itoa]
  by_cases h0 : z = 0
  · rw [if_pos (itoa_eq_zero.2 h0), h0]; rfl
  · rw [if_neg (fun h => h0 (itoa_eq_zero.1 h))]
    by_cases h : z < 0
    · rw [decide_eq_true h, if_pos rfl, Int.sign_eq_neg_one_of_neg h]
    · rw [decide_eq_false h, if_neg (by simp), Int.sign_eq_one_of_pos (by omega)]

def negated (s : BT) : BT := if s = [48] then s else if negT s = true then s.drop 1 else 45 :: s
theorem negated_itoa (z : Int) : negated (Lib.itoa z) = Lib.itoa (-z) := by
  unfold negated
  rw [negT_itoa]
  by_cases h0 : z = 0
  · rw [if_pos (itoa_eq_zero.2 h0), h0]; rfl
  · rw [if_neg (fun h => h0 (itoa_eq_zero.1 h))]
    by_cases h : z < 0
    · rw [decide_eq_true h, if_pos rfl, itoa_neg' h, itoa_pos' (by omega), Int.natAbs_neg]; rfl
    · rw [decide_eq_false h, if_neg (by simp), itoa_pos' (by omega), itoa_neg' (by omega), Int.natAbs_neg]

set_option maxHeartbeats 1000000 in
theorem rfew_any (s : ByteArray) (w : World) (hs : s.size ≤ 9223372036854775807) :
    Calls Tryd.prog 13 #[.string s] w fun e w' => e = .returned (.bool (decide (s.size ≤ 400))) ∧ Below w.heap.size w w' := by
  have hd : decide ((s.size : Int) ≤ 400) = decide (s.size ≤ 400) := by rw [decide_eq_decide]; omega
  rw [← hd]
  clear hd
  go_enter Tryd.func13, Tryd.ntmps13
  go_wp2
  go_ret
  exact ⟨rfl, by (repeat (first | exact Below.refl _ _ | assumption | apply Below.drew | apply below_drewN | (refine Below.alloc ?_ (by first | omega | (simp; omega) | simp) _) | (refine Below.setCell ?_ (by first | omega | (simp; omega) | simp) _) | (refine Below.trans ?_ (Below.mono (by assumption) (by first | omega | (simp; omega) | simp)))))⟩
end Go.Proofs.YtgnggipjebemeaaDoor

namespace Go.Proofs.YtgnggipjebemeaaDoor
open Go.RowKit

theorem head_at (s : ByteArray) (h : 0 < s.size) : s.data.toList.head? = some s[0] := by
  rw [List.head?_eq_getElem?, List.getElem?_eq_getElem (by simpa using h)]; rfl
theorem dg_int (c : UInt8) : isDg c = true ↔ ¬ ((c.toNat : Int) < 48) ∧ ¬ (57 < (c.toNat : Int)) := by rw [isDg_iff]; omega
theorem body_len (s : BT) : s.length = (bodyT s).length + (if negT s then 1 else 0) := by
  conv => lhs; rw [text_split s]
  cases negT s <;> simp

theorem chk_body {s : BT} {c : UInt8} (h : (bodyT s).head? = some c) :
    (((c.toNat : Int) = 48 ∧ 1 < s.length) → chkI s = 3) ∧ (¬ Dgs (bodyT s) → chkI s = 3) ∧ (¬ ((c.toNat : Int) = 48 ∧ 1 < s.length) → Dgs (bodyT s) → chkI s = if 4096 < (bodyT s).length then 23 else 0) := by
  have hne : bodyT s ≠ [] := by intro e; rw [e] at h; cases h
  have hl : 0 < (bodyT s).length := List.length_pos_iff.2 hne
  have hb := body_len s
  have hc : (bodyT s).head? = some 48 ↔ (c.toNat : Int) = 48 := by
    rw [h, Option.some.injEq, ← UInt8.toNat_inj]; show c.toNat = 48 ↔ _; omega
  have hlen : 1 < s.length ↔ (1 < (bodyT s).length ∨ negT s = true) := by
    rw [hb]
    cases negT s <;> simp <;> omega
  have h48 : ((c.toNat : Int) = 48 ∧ 1 < s.length) ↔ ((bodyT s).head? = some 48 ∧ (1 < (bodyT s).length ∨ negT s = true)) := by rw [hc, hlen]
  rw [h48]
  unfold chkI
  refine ⟨fun h1 => if_pos (.inr (.inr h1)), fun h2 => if_pos (.inr (.inl h2)), fun h1 h2 => if_neg ?_⟩
  rintro (h | h | h)
  · exact hne h
  · exact h h2
  · exact h1 h

set_option maxRecDepth 100000 in
set_option maxHeartbeats 2000000 in
theorem rcheck_any (s : ByteArray) (w : World) (hs : s.size ≤ 9223372036854775807) :
    Calls Tryd.prog 14 #[.string s] w fun e w' => e = .returned (.int .i64 (chkI s.data.toList)) ∧ Below w.heap.size w w' := by
  have HC := Lib.hid (rbody_any s w (by omega))
  have hbl := body_len s.data.toList
  rw [bytes_len] at hbl
  obtain ⟨b, hb⟩ : ∃ b : ByteArray, b = ⟨(bodyT s.data.toList).toArray⟩ := ⟨_, rfl⟩
  have hbd : b.data.toList = bodyT s.data.toList := by rw [hb]
  have hbs : b.size = (bodyT s.data.toList).length := by rw [← hbd]; simp
  have hsm : b.size ≤ 9223372036854775807 := by rw [hbs]; split at hbl <;> omega
  rw [← hb] at HC
  clear hb
  by_cases h0 : 0 < b.size
  · have hh := head_at b h0
    rw [hbd] at hh
    obtain ⟨k1, k2, k3⟩ := chk_body hh
    rw [bytes_len] at k1 k3
    rw [← hbd] at k2 k3
    rw [bytes_len] at k3
    generalize chkI s.data.toList = k at *
    have g0 : ((b.size : Int) == 0) = false := by rw [beq_eq_false_iff_ne]; omega
    clear hbl hbs hh hbd
    by_cases h1 : (b[0].toNat : Int) = 48 ∧ 1 < s.size
    · obtain ⟨h2, h3⟩ := h1
      obtain rfl := k1 ⟨h2, h3⟩
      have g1 : ((b[0].toNat : Int) == 48) = true := by simpa using h2
      have g2 : decide ((1 : Int) < (s.size : Int)) = true := by simp; omega
      clear h2 h3 k1 k2 k3
      go_enter Tryd.func14, Tryd.ntmps14
      go_wp2_with (go_at_call 29; refine HC.out.mono ?_; rintro e w1 ⟨rfl, hb1⟩)
      go_ret
      exact ⟨rfl, hb1⟩
    · have K2 := Lib.hid k2
      have K3 := Lib.hid (k3 h1)
      clear k1 k2 k3
      go_enter Tryd.func14, Tryd.ntmps14
      go_wp2_with fail
      refine HC.out.mono ?_
      rintro e w1 ⟨rfl, hb1⟩
      by_cases h2 : (b[0].toNat : Int) = 48
      · have g1 : ((b[0].toNat : Int) == 48) = true := by simpa using h2
        have g2 : decide ((1 : Int) < (s.size : Int)) = false := by simp; omega
        clear h1 h2
        go_wp2_with fail
        go_loop [4] (fun v => ∃ i : Nat, i ≤ b.size ∧ v = .int .i64 i ∧ ∀ j (hj : j < b.size), j < i → isDg b[j] = true) (fun v => b.size - (intOf v).toNat)
        case atStart => exact ⟨0, Nat.zero_le _, rfl, fun j _ h => absurd h (by omega)⟩
        case round =>
          obtain ⟨i, hi, rfl, hall⟩ := hrel
          have HAll := Lib.hid hall
          clear hall
          by_cases hlt : i < b.size
          · by_cases hd : isDg b[i] = true
            · have HD := Lib.hid hd
              obtain ⟨d1, d2⟩ := (dg_int b[i]).1 hd
              have e1 : decide ((b[i].toNat : Int) < 48) = false := by simpa using d1
              have e2 : decide ((57 : Int) < (b[i].toNat : Int)) = false := by simpa using d2
              clear hd d1 d2
              go_wp2
              go_round
              case rel => exact ⟨i + 1, by omega, by go_num, fun j hj h => by
                rcases Nat.lt_or_ge j i with h' | h'
                · exact HAll.out j hj h'
                · obtain rfl : j = i := by omega
                  exact HD.out⟩
              case measure => simp [intOf]; omega
            · have hk : k = 3 := K2.out fun h => hd (h b[i] (by
                have : b.data.toList[i]'(by simpa using hlt) = b[i] := rfl
                rw [← this]; exact List.getElem_mem _))
              subst hk
              have hor : (b[i].toNat : Int) < 48 ∨ 57 < (b[i].toNat : Int) := Classical.byContradiction fun h => hd ((dg_int b[i]).2 (not_or.1 h))
              clear hd K2 K3
              by_cases e1 : (b[i].toNat : Int) < 48
              · clear hor
                go_wp2
                go_ret
                exact ⟨rfl, hb1⟩
              · have e2 := hor.resolve_left e1
                clear hor
                go_wp2
                go_ret
                exact ⟨rfl, hb1⟩
          · obtain rfl : i = b.size := by omega
            have hdg : Dgs b.data.toList := fun c hc => by
              obtain ⟨j, hj, rfl⟩ := List.getElem_of_mem hc
              have hj' : j < b.size := by simpa using hj
              exact HAll.out j hj' hj'
            have hk := K3.out hdg
            clear K2 K3 hdg HAll
            by_cases hm : 4096 < b.size
            · rw [if_pos hm] at hk
              subst hk
              have e1 : decide ((4096 : Int) < (b.size : Int)) = true := by simp; omega
              go_wp2
              go_ret
              exact ⟨rfl, hb1⟩
            · rw [if_neg hm] at hk
              subst hk
              have e1 : decide ((4096 : Int) < (b.size : Int)) = false := by simp; omega
              go_wp2
              go_ret
              exact ⟨rfl, hb1⟩
      · have g1 : ((b[0].toNat : Int) == 48) = false := by simpa using h2
        clear h1 h2
        go_wp2_with fail
        go_loop [4] (fun v => ∃ i : Nat, i ≤ b.size ∧ v = .int .i64 i ∧ ∀ j (hj : j < b.size), j < i → isDg b[j] = true) (fun v => b.size - (intOf v).toNat)
        case atStart => exact ⟨0, Nat.zero_le _, rfl, fun j _ h => absurd h (by omega)⟩
        case round =>
          obtain ⟨i, hi, rfl, hall⟩ := hrel
          have HAll := Lib.hid hall
          clear hall
          by_cases hlt : i < b.size
          · by_cases hd : isDg b[i] = true
            · have HD := Lib.hid hd
              obtain ⟨d1, d2⟩ := (dg_int b[i]).1 hd
              have e1 : decide ((b[i].toNat : Int) < 48) = false := by simpa using d1
              have e2 : decide ((57 : Int) < (b[i].toNat : Int)) = false := by simpa using d2
              clear hd d1 d2
              go_wp2
              go_round
              case rel => exact ⟨i + 1, by omega, by go_num, fun j hj h => by
                rcases Nat.lt_or_ge j i with h' | h'
                · exact HAll.out j hj h'
                · obtain rfl : j = i := by omega
                  exact HD.out⟩
              case measure => simp [intOf]; omega
            · have hk : k = 3 := K2.out fun h => hd (h b[i] (by
                have : b.data.toList[i]'(by simpa using hlt) = b[i] := rfl
                rw [← this]; exact List.getElem_mem _))
              subst hk
              have hor : (b[i].toNat : Int) < 48 ∨ 57 < (b[i].toNat : Int) := Classical.byContradiction fun h => hd ((dg_int b[i]).2 (not_or.1 h))
              clear hd K2 K3
              by_cases e1 : (b[i].toNat : Int) < 48
              · clear hor
                go_wp2
                go_ret
                exact ⟨rfl, hb1⟩
              · have e2 := hor.resolve_left e1
                clear hor
                go_wp2
                go_ret
                exact ⟨rfl, hb1⟩
          · obtain rfl : i = b.size := by omega
            have hdg : Dgs b.data.toList := fun c hc => by
              obtain ⟨j, hj, rfl⟩ := List.getElem_of_mem hc
              have hj' : j < b.size := by simpa using hj
              exact HAll.out j hj' hj'
            have hk := K3.out hdg
            clear K2 K3 hdg HAll
            by_cases hm : 4096 < b.size
            · rw [if_pos hm] at hk
              subst hk
              have e1 : decide ((4096 : Int) < (b.size : Int)) = true := by simp; omega
              go_wp2
              go_ret
              exact ⟨rfl, hb1⟩
            · rw [if_neg hm] at hk
              subst hk
              have e1 : decide ((4096 : Int) < (b.size : Int)) = false := by simp; omega
              go_wp2
              go_ret
              exact ⟨rfl, hb1⟩
  · have h0' : b.size = 0 := by omega
    have hv : chkI s.data.toList = 3 := by
      unfold chkI
      rw [if_pos (.inl (List.length_eq_zero_iff.1 (by rw [← hbs]; exact h0')))]
    rw [hv]
    clear hv hbs hbd hbl
    go_enter Tryd.func14, Tryd.ntmps14
    go_wp2_with (go_at_call 29; refine HC.out.mono ?_; rintro e w1 ⟨rfl, hb1⟩)
    go_ret
    exact ⟨rfl, hb1⟩

end Go.Proofs.YtgnggipjebemeaaDoor

namespace Go.Proofs.YtgnggipjebemeaaDoor
open Go.RowKit

theorem dg_at {t : BT} {b : ByteArray} (hb : b.data.toList = t) (hd : Dgs t) {i : Nat} (h : i < b.size) : 48 ≤ b[i].toNat ∧ b[i].toNat ≤ 57 := by
  have hi : i < t.length := by rw [← hb]; simpa using h
  have e : b[i] = t[i] := by subst hb; rfl
  rw [e]
  exact isDg_iff.1 (hd _ (List.getElem_mem _))
theorem take_val {t : BT} {b : ByteArray} (hb : b.data.toList = t) {i : Nat} (h : i < b.size) : dval (t.take (i + 1)) = 10 * dval (t.take i) + (b[i].toNat - 48) := by
  have hi : i < t.length := by rw [← hb]; simpa using h
  have e : b[i] = t[i] := by subst hb; rfl
  rw [dval_take_succ t i hi, e]
theorem take_lt {t : BT} (hd : Dgs t) (hl : t.length ≤ 17) (i : Nat) : dval (t.take i) < 10 ^ 17 := by
  refine Nat.lt_of_lt_of_le (dval_lt (hd.take i)) (Nat.pow_le_pow_right (by omega) ?_)
  rw [List.length_take]; omega

theorem decZ_len20 {n : Int} (h0 : -9223372036854775808 ≤ n) (h1 : n ≤ 9223372036854775807) : (decZ n.natAbs).length ≤ 19 := by
  unfold decZ
  split
  · simp
  · exact (dec_len_iff (k := 19) (by omega)).2 (by omega)
theorem tmod10 (k : Int) : ∃ d : Nat, d < 10 ∧ d = k.natAbs % 10 ∧ (k.tmod 10 = d ∨ (k.tmod 10 = -(d : Int) ∧ 0 < d)) := by
  refine ⟨k.natAbs % 10, by omega, rfl, ?_⟩
  rcases Int.lt_or_le k 0 with h | h
  · have e : k.tmod 10 = -((-k).tmod 10) := by rw [Int.neg_tmod]; omega
    rw [Int.tmod_eq_emod_of_nonneg (by omega : 0 ≤ -k)] at e
    by_cases h0 : k.natAbs % 10 = 0
    · left; omega
    · right; omega
  · left
    rw [Int.tmod_eq_emod_of_nonneg h]; omega
theorem conv1 (w : World) (c : UInt8) (v : Int) (hv : v = (c.toNat : Int)) :
    (convert 52 9 (.slice (some ⟨w.heap.size, 0, none⟩) 1 1)).run Tryd.prog (w.alloc (.cells #[.int .u8 v] 5)) = .ok (.string ⟨#[c]⟩) (w.alloc (.cells #[.int .u8 v] 5)) := by
  have h := run_convert_bytes_back (P := Tryd.prog) (w.alloc (.cells #[.int .u8 v] 5)) 52 9 5 ⟨w.heap.size, 0, none⟩ 1 [c] Tryd.underlying52 Tryd.underlying5 Tryd.underlying9 (fun j hj => by
    obtain rfl : j = 0 := by simpa using hj
    have e : ((⟨w.heap.size, 0, none⟩ : Addr).add 0) = ⟨w.heap.size, 0, none⟩ := by unfold Addr.add; simp
    rw [e, World.cell?_alloc_new, hv]
    rfl)
  exact h

end Go.Proofs.YtgnggipjebemeaaDoor

namespace Go.Proofs.YtgnggipjebemeaaDoor
open Go.RowKit

def cmpN (m n : Nat) : Int := if m < n then -1 else if n < m then 1 else 0
theorem cmpN_sign (m n : Nat) : cmpN m n = ((m : Int) - (n : Int)).sign := by
  unfold cmpN
  by_cases h : m < n
  · rw [if_pos h, Int.sign_eq_neg_one_of_neg (by omega)]
  · rw [if_neg h]
    by_cases h' : n < m
    · rw [if_pos h', Int.sign_eq_one_of_pos (by omega)]
    · rw [if_neg h', show (m : Int) - n = 0 from by omega]; rfl
theorem sign_cases (z : Int) : (z < 0 ∧ z.sign = -1) ∨ (z = 0 ∧ z.sign = 0) ∨ (0 < z ∧ z.sign = 1) := by
  rcases Int.lt_trichotomy z 0 with h | h | h
  · exact .inl ⟨h, Int.sign_eq_neg_one_of_neg h⟩
  · exact .inr (.inl ⟨h, by rw [h]; rfl⟩)
  · exact .inr (.inr ⟨h, Int.sign_eq_one_of_pos h⟩)

theorem order_rule (x y : Int) : (x - y).sign = if x.sign < y.sign then -1 else if y.sign < x.sign then 1 else if x.sign < 0 then cmpN y.natAbs x.natAbs else cmpN x.natAbs y.natAbs := by
  rw [cmpN_sign, cmpN_sign]
  rcases sign_cases x with ⟨h1, h2⟩ | ⟨h1, h2⟩ | ⟨h1, h2⟩ <;> rcases sign_cases y with ⟨k1, k2⟩ | ⟨k1, k2⟩ | ⟨k1, k2⟩ <;> rw [h2, k2] <;> simp <;>
    first | omega | (congr 1; omega) | (subst h1; subst k1; rfl)
end Go.Proofs.YtgnggipjebemeaaDoor

namespace Go.Proofs.YtgnggipjebemeaaDoor
open Go.RowKit

def nv (l : List Nat) : List Value := l.map fun (x : Nat) => Value.int .i64 (x : Int)
theorem nv_append (l m : List Nat) : nv (l ++ m) = nv l ++ nv m := by simp [nv]
theorem nv_length (l : List Nat) : (nv l).length = l.length := by simp [nv]
theorem nv_set (l : List Nat) (i x : Nat) : (nv l).set i (.int .i64 (x : Int)) = nv (l.set i x) := by simp [nv, List.map_set]
theorem nv_zeros (n : Nat) : List.replicate n (Value.int .i64 0) = nv (List.replicate n 0) := by simp [nv]

def Ns (w : World) (A : Option Addr) (n : Nat) (l : List Nat) : Prop := n = l.length ∧ Sl w 1 A n (nv l)
theorem Ns.below {w w' : World} {A : Option Addr} {n : Nat} {l : List Nat} (h : Ns w A n l) (hb : Below w.heap.size w w') : Ns w' A n l := ⟨h.1, h.2.below hb⟩
theorem Ns.at1 {w : World} {A : Option Addr} {n : Nat} {l : List Nat} (h : Ns w A n l) {k : Nat} (hk : k < l.length) :
    ∃ b o, A = some ⟨b, o, none⟩ ∧ b < w.heap.size ∧ w.cell? ⟨b, o + k, none⟩ = some (.int .i64 (l[k] : Int)) := by
  obtain ⟨b, o, e, hb, hc⟩ := h.2.2 (by have := h.1; omega)
  exact ⟨b, o, e, hb, hc k _ (by simp [nv, hk])⟩
theorem Ns.of_own {w : World} {base : Nat} {e : TypeId} {A : Option Addr} {n c : Nat} {l : List Nat} (h : w.ownsRow base e 1 (.slice A n c) n (nv l)) (hn : n = l.length) : Ns w A n l := ⟨hn, Sl.of_own h⟩
theorem infoN : (Tryd.prog.info? 3).map (fun i => (i.zero, i.size, i.bytes)) = some (some (.int .i64 0), 1, 8) := by kernel_rfl

def RetL (l : List Nat) (w : World) (e : Ending) (w' : World) : Prop := ∃ A c, e = .returned (.slice A l.length c) ∧ Ns w' A l.length l ∧ Below w.heap.size w w'
theorem drop_take_succ {t : BT} {lo j : Nat} (h1 : lo ≤ j) (h2 : j < t.length) : (t.take (j + 1)).drop lo = (t.take j).drop lo ++ [t[j]] := by
  rw [List.take_succ_eq_append_getElem h2, List.drop_append_of_le_length (by rw [List.length_take]; omega)]
theorem digit_next {t : BT} {b : ByteArray} (hb : b.data.toList = t) {lo j : Nat} (h1 : lo ≤ j) (h2 : j < b.size) : dval ((t.take (j + 1)).drop lo) = 10 * dval ((t.take j).drop lo) + (b[j].toNat - 48) := by
  have hi : j < t.length := by rw [← hb]; simpa using h2
  have e : b[j] = t[j] := by subst hb; rfl
  rw [drop_take_succ h1 hi, dval_snoc, e]

end Go.Proofs.YtgnggipjebemeaaDoor

namespace Go.Proofs.YtgnggipjebemeaaDoor
open Go.RowKit

theorem infoB : (Tryd.prog.info? 5).map (fun i => (i.zero, i.size, i.bytes)) = some (some (.int .u8 0), 1, 1) := by kernel_rfl
theorem byte_one (x : Int) : ∀ u ∈ [Value.int .u8 x], u.oneCell' = true := by simp; rfl

theorem digit_rule (V x j : Nat) (hj : j < 4) (_hx : x < 10000) :
    (V * 10000 + x) / 10 ^ (3 - j) = 10 * ((V * 10000 + x) / 10 ^ (4 - j)) + (x % 10 ^ (4 - j)) / 10 ^ (3 - j) ∧ x % 10 ^ (4 - j) % 10 ^ (3 - j) = x % 10 ^ (3 - j) ∧ (x % 10 ^ (4 - j)) / 10 ^ (3 - j) < 10 := by
  obtain rfl | rfl | rfl | rfl : j = 0 ∨ j = 1 ∨ j = 2 ∨ j = 3 := by omega
  all_goals (simp only [Nat.reduceSub, Nat.reducePow]; omega)

def placeOf (j : Nat) : Nat := if j < 4 then 10 ^ (3 - j) else 0

end Go.Proofs.YtgnggipjebemeaaDoor
