/- Lemmas and contracts of functions, joined for the claim: VRef, VByte, VSplit, VNamed, VName2, VAwake. -/
import Derived.Test.YtjbhfkcjmjhhdaaGreatDoorGLevA
import Derived.Laws.BitsLemmas
import Derived.Test.YtjbhfkcjmjhhdaaGreatDoorGPlain
namespace Go.Proofs.YtjbhfkcjmjhhdaaGreatDoor
open Go.RowKit

set_option maxHeartbeats 1000000 in
theorem rldigits_any (s : ByteArray) (w : World) (hs : s.size ≤ 9223372036854775807) :
    Calls Tryz.prog 56 #[.string s] w fun e w' => e = .returned (.bool (dig3 s.data.toList)) ∧ w = w' := by
  have K1 := Lib.hid (show ∀ i (h : i < s.size), isDg s[i] = false → dig3 s.data.toList = false from fun i h hd => by
    unfold dig3
    rw [Bool.and_eq_false_iff]
    refine .inr (Bool.eq_false_iff.2 fun h2 => ?_)
    rw [List.all_eq_true] at h2
    have := h2 _ (List.getElem_mem (l := s.data.toList) (n := i) (by rw [bytes_len]; exact h))
    rw [show s.data.toList[i]'(by rw [bytes_len]; exact h) = s[i] from rfl, hd] at this
    cases this)
  have K2 := Lib.hid (show (∀ i (h : i < s.size), isDg s[i] = true) → dig3 s.data.toList = decide (1 ≤ s.size ∧ s.size ≤ 3) from fun h => by
    unfold dig3
    rw [bytes_len, show s.data.toList.all isDg = true from List.all_eq_true.2 fun c hc => by
      obtain ⟨i, hi, rfl⟩ := List.getElem_of_mem hc
      rw [bytes_len] at hi
      exact h i hi, Bool.and_true])
  generalize dig3 s.data.toList = b at *
  go_enter Tryz.func56, Tryz.ntmps56
  go_wp2
  go_loop [3] (fun v => ∃ i : Nat, i ≤ s.size ∧ v = .int .i64 i ∧ ∀ j (hj : j < s.size), j < i → isDg s[j] = true) (fun v => s.size - (intOf v).toNat)
  case atStart => exact ⟨0, Nat.zero_le _, rfl, fun j _ h => absurd h (by omega)⟩
  case round =>
    obtain ⟨i, hi, rfl, hall⟩ := hrel
    have HAll := Lib.hid hall
    clear hall
    by_cases hlt : i < s.size
    · by_cases h1 : (s[i].toNat : Int) < 48
      · have hv := K1.out i hlt (by unfold isDg; rw [decide_eq_false]; omega)
        subst hv
        clear K1 K2
        go_wp2
        go_ret
        exact ⟨rfl, rfl⟩
      · by_cases h2 : (57 : Int) < (s[i].toNat : Int)
        · have hv := K1.out i hlt (by unfold isDg; rw [decide_eq_false]; omega)
          subst hv
          clear K1 K2
          go_wp2
          go_ret
          exact ⟨rfl, rfl⟩
        · have HD := Lib.hid (show isDg s[i] = true by rw [isDg_iff]; omega)
          go_wp2
          go_round
          case rel => exact ⟨i + 1, by omega, by go_num, fun j hj h => by
            rcases Nat.lt_or_ge j i with h' | h'
            · exact HAll.out j hj h'
            · obtain rfl : j = i := by omega
              exact HD.out⟩
          case measure => simp [intOf]; omega
    · obtain rfl : i = s.size := by omega
      have hv := K2.out (fun j hj => HAll.out j hj hj)
      by_cases h1 : 1 ≤ s.size
      · by_cases h2 : s.size ≤ 3
        · rw [decide_eq_true ⟨h1, h2⟩] at hv
          subst hv
          have g : decide ((s.size : Int) ≤ 3) = true := by rw [decide_eq_true_eq]; omega
          clear K1 K2
          go_wp2
          go_ret
          exact ⟨rfl, rfl⟩
        · rw [decide_eq_false (fun h => h2 h.2)] at hv
          subst hv
          have g : decide ((s.size : Int) ≤ 3) = false := by rw [decide_eq_false_iff_not]; omega
          clear K1 K2
          go_wp2
          go_ret
          exact ⟨rfl, rfl⟩
      · rw [decide_eq_false (fun h => h1 h.1)] at hv
        subst hv
        clear K1 K2
        go_wp2
        go_ret
        exact ⟨rfl, rfl⟩
set_option maxHeartbeats 1000000 in
theorem rlnumber_any (s : ByteArray) (w : World) (hs : s.size ≤ 3) (hd : Dgs s.data.toList) :
    Calls Tryz.prog 57 #[.string s] w fun e w' => e = .returned (.int .i64 (dval s.data.toList : Int)) ∧ w = w' := by
  have HD := Lib.hid hd
  clear hd
  go_enter Tryz.func57, Tryz.ntmps57
  go_wp2
  go_loop [3, 4] (fun nv v => ∃ i : Nat, i ≤ s.size ∧ v = .int .i64 i ∧ nv = .int .i64 (dval (s.data.toList.take i) : Int)) (fun _ v => s.size - (intOf v).toNat)
  case atStart => exact ⟨0, Nat.zero_le _, rfl, rfl⟩
  case round =>
    obtain ⟨i, hi, rfl, rfl⟩ := hrel
    by_cases hlt : i < s.size
    · have hlen : i < s.data.toList.length := by rw [bytes_len]; exact hlt
      have hdg := isDg_iff.1 (HD.out (s.data.toList[i]) (List.getElem_mem hlen))
      have hst := dval_take_succ s.data.toList i hlen
      have hbd := dval_bd (s.data.toList.take i) (HD.out.take i) (by rw [List.length_take, bytes_len]; omega)
      have e1 : s.data.toList[i] = s[i] := rfl
      rw [e1] at hdg hst
      have HS := Lib.hid (show (dval (s.data.toList.take (i + 1)) : Int) = 10 * (dval (s.data.toList.take i) : Int) + ((s[i].toNat : Int) - 48) by rw [hst]; omega)
      have b0 : (0 : Int) ≤ (dval (s.data.toList.take i) : Int) := by omega
      have b1 : (dval (s.data.toList.take i) : Int) ≤ 999 := by omega
      have c0 : (48 : Int) ≤ (s[i].toNat : Int) := by omega
      have c1 : (s[i].toNat : Int) ≤ 57 := by omega
      generalize (dval (s.data.toList.take i) : Int) = x at *
      clear hdg hst hbd e1
      go_wp2
      go_round
      case rel => exact ⟨i + 1, by omega, by go_num, by rw [HS.out]⟩
      case measure => simp [intOf]; omega
    · obtain rfl : i = s.size := by omega
      rw [List.take_of_length_le (by rw [bytes_len]; omega)]
      go_wp2
      go_ret
      exact ⟨rfl, rfl⟩
set_option maxHeartbeats 1000000 in
theorem rlof_any (n : Int) (w : World) (h0 : 0 ≤ n) (h1 : n ≤ 1000000) :
    Calls Tryz.prog 58 #[.int .i64 n] w fun e w' => e = .returned (.int .i64 (ofN n)) ∧ w = w' := by
  have HV := Lib.hid (show ofN n = (65535 * n + 50000) / 100000 from rfl)
  generalize ofN n = v at *
  go_enter Tryz.func58, Tryz.ntmps58
  go_wp2
  go_ret
  exact ⟨by rw [HV.out]; rfl, rfl⟩
theorem pad0_fill {l : BT} {k : Nat} (h : l.length ≤ 3) (hk : k = 3 - l.length) : l ++ List.replicate k 48 = pad0 l := by
  subst hk
  unfold pad0
  rw [List.take_append, List.take_of_length_le h]
  congr 1
  obtain h | h | h | h : l.length = 0 ∨ l.length = 1 ∨ l.length = 2 ∨ l.length = 3 := by omega
  all_goals rw [h]; rfl

structure PctW (s u d : ByteArray) : Prop where
  hu : u.data.toList = wholeT s.data.toList
  hd : d.data.toList = restT s.data.toList
theorem PctW.no1 {s u d : ByteArray} (h : PctW s u d) (hf : s.data.toList ≠ fullT) (h1 : dig3 u.data.toList = false) : pctT s.data.toList = (0, 3) := by
  rw [h.hu] at h1
  have : okP s.data.toList = false := by unfold okP; rw [h1]; rfl
  unfold pctT
  rw [if_neg hf, this, if_pos rfl]
theorem PctW.no2 {s u d : ByteArray} (h : PctW s u d) (hf : s.data.toList ≠ fullT) (h1 : dig3 d.data.toList = false) : pctT s.data.toList = (0, 3) := by
  rw [h.hd] at h1
  have : okP s.data.toList = false := by unfold okP; rw [h1, Bool.and_false]; rfl
  unfold pctT
  rw [if_neg hf, this, if_pos rfl]
theorem PctW.lead {s u d : ByteArray} (h : PctW s u d) (h0 : 0 < u.size) : (decide (1 < (wholeT s.data.toList).length) && decide ((wholeT s.data.toList).head? = some 48)) = decide (1 < u.size ∧ (u[0].toNat : Int) = 48) := by
  have e1 : (wholeT s.data.toList).length = u.size := by rw [← h.hu, bytes_len]
  have e2 : (wholeT s.data.toList).head? = some u[0] := by
    rw [← h.hu, List.head?_eq_getElem?, List.getElem?_eq_getElem (by simpa using h0)]; rfl
  have e3 : ((u[0].toNat : Int) = 48) ↔ u[0] = 48 := by
    rw [← UInt8.toNat_inj]; show _ ↔ u[0].toNat = 48; omega
  rw [e1, e2, ← Bool.decide_and, decide_eq_decide, e3, Option.some.injEq]
theorem PctW.no3 {s u d : ByteArray} (h : PctW s u d) (hf : s.data.toList ≠ fullT) (h0 : 0 < u.size) (h1 : 1 < u.size ∧ (u[0].toNat : Int) = 48) : pctT s.data.toList = (0, 3) := by
  have : okP s.data.toList = false := by unfold okP; rw [h.lead h0, decide_eq_true h1, Bool.not_true, Bool.and_false]
  unfold pctT
  rw [if_neg hf, this, if_pos rfl]
theorem PctW.yes {s u d : ByteArray} (h : PctW s u d) (hf : s.data.toList ≠ fullT) (h0 : 0 < u.size) (h1 : ¬ (1 < u.size ∧ (u[0].toNat : Int) = 48)) (a1 : dig3 u.data.toList = true) (a2 : dig3 d.data.toList = true) :
    pctT s.data.toList = if 100000 < 1000 * (dval u.data.toList : Int) + (dval (pad0 d.data.toList) : Int) then (0, 2) else (ofN (1000 * (dval u.data.toList : Int) + (dval (pad0 d.data.toList) : Int)), 0) := by
  have : okP s.data.toList = true := by unfold okP; rw [h.lead h0, decide_eq_false h1, ← h.hu, ← h.hd, a1, a2]; rfl
  have hv : valP s.data.toList = 1000 * (dval u.data.toList : Int) + (dval (pad0 d.data.toList) : Int) := by unfold valP; rw [← h.hu, ← h.hd]
  unfold pctT
  rw [if_neg hf, this, if_neg (by decide), hv]

def sizeOfS (v : Value) : Nat := match v with
  | .string R => R.size
  | _ => 0
set_option maxRecDepth 100000 in
set_option maxHeartbeats 4000000 in
theorem rlpercent_none (s : ByteArray) (w : World) (hs : s.size ≤ 9223372036854775807) (hf : s.data.toList ≠ fullT) (hn : ∀ j (hj : j < s.size), s[j] ≠ 46) (u d : ByteArray) (hu : u = s) (hdd : d = ⟨#[48, 48, 48]⟩) (hW : PctW s u d) :
    Calls Tryz.prog 14 #[.string s] w fun e w' => e = .returned (.tuple #[.int .i64 (pctT s.data.toList).1, .int .i64 (pctT s.data.toList).2]) ∧ Below w.heap.size w w' := by
  have g1 := is_full s
  rw [decide_eq_false hf] at g1
  have HN := Lib.hid hn
  have HF := Lib.hid hf
  have HW := Lib.hid hW
  have hA := fun w => rldigits_any u w (by rw [hu]; exact hs)
  have hD := fun w => rldigits_any d w (by rw [hdd]; decide)
  have HU := Lib.hid hu
  have HDd := Lib.hid hdd
  clear hn hu hdd hf hW
  go_enter Tryz.func14, Tryz.ntmps14
  go_wp2
  go_loop [4, 5, 6] (fun uv dv iv => ∃ i : Nat, i ≤ s.size ∧ iv = .int .i64 i ∧ uv = .string u ∧ dv = .string d) (fun _ _ iv => s.size - (intOf iv).toNat)
  case atStart => exact ⟨0, Nat.zero_le _, rfl, by rw [HU.out], by rw [HDd.out]⟩
  case round =>
    obtain ⟨i, hi, rfl, rfl, rfl⟩ := hrel
    by_cases hlt : i < s.size
    · have e9 : ((s[i].toNat : Int) == 46) = false := by
        rw [beq_eq_false_iff_ne]
        intro h
        exact HN.out i hlt (UInt8.toNat_inj.1 (by show s[i].toNat = 46; omega))
      go_wp2
      go_round
      case rel => exact ⟨i + 1, by omega, by go_num, rfl, rfl⟩
      case measure => simp [intOf]; omega
    obtain rfl : i = s.size := by omega
    cases h1 : dig3 u.data.toList
    · have HV := Lib.hid (HW.out.no1 HF.out h1)
      rw [h1] at hA
      have HA := Lib.hid hA
      clear hA hD h1
      go_wp2_with (go_at_call 56; with_reducible refine (HA.out _).mono ?_; rintro e w1 ⟨rfl, rfl⟩)
      go_ret2
      exact ⟨by rw [HV.out]; rfl, by (repeat (first | exact Below.refl _ _ | assumption | apply Below.drew | apply below_drewN | (refine Below.alloc ?_ (by first | omega | (simp; omega) | simp) _) | (refine Below.setCell ?_ (by first | omega | (simp; omega) | simp) _) | (refine Below.trans ?_ (Below.mono (by assumption) (by first | omega | (simp; omega) | simp)))))⟩
    rw [h1] at hA
    have HA := Lib.hid hA
    cases h2 : dig3 d.data.toList
    · have HV := Lib.hid (HW.out.no2 HF.out h2)
      rw [h2] at hD
      have HD := Lib.hid hD
      clear hA hD h1 h2
      go_wp2_with (first | (go_at_call 56; with_reducible refine (HA.out _).mono ?_; rintro e w1 ⟨rfl, rfl⟩) | (go_at_call 56; with_reducible refine (HD.out _).mono ?_; rintro e w1 ⟨rfl, rfl⟩))
      go_ret2
      exact ⟨by rw [HV.out]; rfl, by (repeat (first | exact Below.refl _ _ | assumption | apply Below.drew | apply below_drewN | (refine Below.alloc ?_ (by first | omega | (simp; omega) | simp) _) | (refine Below.setCell ?_ (by first | omega | (simp; omega) | simp) _) | (refine Below.trans ?_ (Below.mono (by assumption) (by first | omega | (simp; omega) | simp)))))⟩
    rw [h2] at hD
    have HD := Lib.hid hD
    have hU := dig3_iff.1 h1
    have hR := dig3_iff.1 h2
    rw [bytes_len] at hU hR
    have u0 : 0 < u.size := by omega
    by_cases h3 : 1 < u.size ∧ (u[0].toNat : Int) = 48
    · have HV := Lib.hid (HW.out.no3 HF.out u0 h3)
      obtain ⟨k1, k2⟩ := h3
      have e1 : ((u[0].toNat : Int) == 48) = true := by simpa using k2
      clear hA hD h1 h2 hU hR k2
      go_wp2_with (first | (go_at_call 56; with_reducible refine (HA.out _).mono ?_; rintro e w1 ⟨rfl, rfl⟩) | (go_at_call 56; with_reducible refine (HD.out _).mono ?_; rintro e w1 ⟨rfl, rfl⟩))
      go_ret2
      exact ⟨by rw [HV.out]; rfl, by (repeat (first | exact Below.refl _ _ | assumption | apply Below.drew | apply below_drewN | (refine Below.alloc ?_ (by first | omega | (simp; omega) | simp) _) | (refine Below.setCell ?_ (by first | omega | (simp; omega) | simp) _) | (refine Below.trans ?_ (Below.mono (by assumption) (by first | omega | (simp; omega) | simp)))))⟩
    have hv := HW.out.yes HF.out u0 h3 h1 h2
    have hx := dval_bd _ hU.2 (by rw [bytes_len]; omega)
    have hy := dval_bd _ (pad0_dgs hR.2) (by rw [pad0_len]; exact Nat.le_refl _)
    have HN1 := Lib.hid (fun w => rlnumber_any u w (by omega) hU.2)
    have HN2 := Lib.hid (fun (R : ByteArray) w (hR1 : R.data.toList = pad0 d.data.toList) => (show Calls Tryz.prog 57 #[.string R] w fun e w' => e = .returned (.int .i64 (dval (pad0 d.data.toList) : Int)) ∧ w = w' by
      have := rlnumber_any R w (by rw [← bytes_len, hR1, pad0_len]; exact Nat.le_refl _) (by rw [hR1]; exact pad0_dgs hR.2)
      rw [hR1] at this
      exact this))
    have HO := Lib.hid (fun w (h : ¬ 100000 < 1000 * (dval u.data.toList : Int) + (dval (pad0 d.data.toList) : Int)) => rlof_any (1000 * (dval u.data.toList : Int) + (dval (pad0 d.data.toList) : Int)) w (by omega) (by omega))
    have HP := Lib.hid (fun (R : ByteArray) (k : Nat) (hR1 : R.data.toList = d.data.toList ++ List.replicate k 48) (hR2 : R.size = 3) => (show R.data.toList = pad0 d.data.toList by
      have h5 := congrArg List.length hR1
      rw [bytes_len, List.length_append, List.length_replicate, bytes_len, hR2] at h5
      rw [hR1]
      exact pad0_fill (by rw [bytes_len]; omega) (by rw [bytes_len]; omega)))
    have hd3 : d.size ≤ 3 := by omega
    have HV := Lib.hid hv
    have x0 : (0 : Int) ≤ (dval u.data.toList : Int) := by omega
    have x1 : (dval u.data.toList : Int) ≤ 999 := by omega
    have y0 : (0 : Int) ≤ (dval (pad0 d.data.toList) : Int) := by omega
    have y1 : (dval (pad0 d.data.toList) : Int) ≤ 999 := by omega
    have HApp := Lib.hid (fun (R : ByteArray) (k : Nat) (hR1 : R.data.toList = d.data.toList ++ List.replicate k 48) => (show (R ++ ⟨#[48]⟩ : ByteArray).data.toList = d.data.toList ++ List.replicate (k + 1) 48 by
      rw [ByteArray.data_append, Array.toList_append, hR1, List.append_assoc, List.replicate_succ']))
    clear hA hD h1 h2 hU hR hv hx hy
    generalize (dval (pad0 d.data.toList) : Int) = y at *
    generalize (dval u.data.toList : Int) = x at *
    by_cases k1 : 1 < u.size
    · have e1 : ((u[0].toNat : Int) == 48) = false := by rw [beq_eq_false_iff_ne]; exact fun h => h3 ⟨k1, h⟩
      clear h3
      go_wp2_with (first | (go_at_call 56; with_reducible refine (HA.out _).mono ?_; rintro e w1 ⟨rfl, rfl⟩) | (go_at_call 56; with_reducible refine (HD.out _).mono ?_; rintro e w1 ⟨rfl, rfl⟩))
      go_loop [5] (fun rv => ∃ (R : ByteArray) (k : Nat), rv = .string R ∧ R.data.toList = d.data.toList ++ List.replicate k 48 ∧ R.size ≤ 3) (fun rv => 3 - sizeOfS rv)
      case atStart => exact ⟨d, 0, rfl, by simp, hd3⟩
      case round =>
        obtain ⟨R, k, rfl, hR1, hR2⟩ := hrel
        have HR1 := Lib.hid hR1
        by_cases hlt : R.size < 3
        · clear hR1
          go_wp2
          go_round
          case rel => exact ⟨_, k + 1, rfl, HApp.out R k HR1.out, by rw [ByteArray.size_append]; show R.size + 1 ≤ 3; omega⟩
          case measure => show 3 - (R ++ ⟨#[48]⟩ : ByteArray).size < 3 - R.size; rw [ByteArray.size_append]; show 3 - (R.size + 1) < _; omega
        · have hR3 := HP.out R k hR1 (by omega)
          have HNR := Lib.hid (fun w => HN2.out R w hR3)
          clear hR1 hR3
          by_cases hbig : 100000 < 1000 * x + y
          · have HV2 := Lib.hid (HV.out.trans (if_pos hbig))
            go_wp2_with (first | (go_at_call 57; with_reducible refine (HN1.out _).mono ?_; rintro e w1 ⟨rfl, rfl⟩) | (go_at_call 57; with_reducible refine (HNR.out _).mono ?_; rintro e w1 ⟨rfl, rfl⟩))
            go_ret2
            exact ⟨by rw [HV2.out]; rfl, by (repeat (first | exact Below.refl _ _ | assumption | apply Below.drew | apply below_drewN | (refine Below.alloc ?_ (by first | omega | (simp; omega) | simp) _) | (refine Below.setCell ?_ (by first | omega | (simp; omega) | simp) _) | (refine Below.trans ?_ (Below.mono (by assumption) (by first | omega | (simp; omega) | simp)))))⟩
          · have HV2 := Lib.hid (HV.out.trans (if_neg hbig))
            have HOf := Lib.hid (fun w => HO.out w (by omega))
            generalize ofN (1000 * x + y) = q at *
            go_wp2_with (first | (go_at_call 57; with_reducible refine (HN1.out _).mono ?_; rintro e w1 ⟨rfl, rfl⟩) | (go_at_call 57; with_reducible refine (HNR.out _).mono ?_; rintro e w1 ⟨rfl, rfl⟩) | (go_at_call 58; with_reducible refine (HOf.out _).mono ?_; rintro e w1 ⟨rfl, rfl⟩))
            go_ret2
            exact ⟨by rw [HV2.out]; rfl, by (repeat (first | exact Below.refl _ _ | assumption | apply Below.drew | apply below_drewN | (refine Below.alloc ?_ (by first | omega | (simp; omega) | simp) _) | (refine Below.setCell ?_ (by first | omega | (simp; omega) | simp) _) | (refine Below.trans ?_ (Below.mono (by assumption) (by first | omega | (simp; omega) | simp)))))⟩
    · clear h3
      go_wp2_with (first | (go_at_call 56; with_reducible refine (HA.out _).mono ?_; rintro e w1 ⟨rfl, rfl⟩) | (go_at_call 56; with_reducible refine (HD.out _).mono ?_; rintro e w1 ⟨rfl, rfl⟩))
      go_loop [5] (fun rv => ∃ (R : ByteArray) (k : Nat), rv = .string R ∧ R.data.toList = d.data.toList ++ List.replicate k 48 ∧ R.size ≤ 3) (fun rv => 3 - sizeOfS rv)
      case atStart => exact ⟨d, 0, rfl, by simp, hd3⟩
      case round =>
        obtain ⟨R, k, rfl, hR1, hR2⟩ := hrel
        have HR1 := Lib.hid hR1
        by_cases hlt : R.size < 3
        · clear hR1
          go_wp2
          go_round
          case rel => exact ⟨_, k + 1, rfl, HApp.out R k HR1.out, by rw [ByteArray.size_append]; show R.size + 1 ≤ 3; omega⟩
          case measure => show 3 - (R ++ ⟨#[48]⟩ : ByteArray).size < 3 - R.size; rw [ByteArray.size_append]; show 3 - (R.size + 1) < _; omega
        · have hR3 := HP.out R k hR1 (by omega)
          have HNR := Lib.hid (fun w => HN2.out R w hR3)
          clear hR1 hR3
          by_cases hbig : 100000 < 1000 * x + y
          · have HV2 := Lib.hid (HV.out.trans (if_pos hbig))
            go_wp2_with (first | (go_at_call 57; with_reducible refine (HN1.out _).mono ?_; rintro e w1 ⟨rfl, rfl⟩) | (go_at_call 57; with_reducible refine (HNR.out _).mono ?_; rintro e w1 ⟨rfl, rfl⟩))
            go_ret2
            exact ⟨by rw [HV2.out]; rfl, by (repeat (first | exact Below.refl _ _ | assumption | apply Below.drew | apply below_drewN | (refine Below.alloc ?_ (by first | omega | (simp; omega) | simp) _) | (refine Below.setCell ?_ (by first | omega | (simp; omega) | simp) _) | (refine Below.trans ?_ (Below.mono (by assumption) (by first | omega | (simp; omega) | simp)))))⟩
          · have HV2 := Lib.hid (HV.out.trans (if_neg hbig))
            have HOf := Lib.hid (fun w => HO.out w (by omega))
            generalize ofN (1000 * x + y) = q at *
            go_wp2_with (first | (go_at_call 57; with_reducible refine (HN1.out _).mono ?_; rintro e w1 ⟨rfl, rfl⟩) | (go_at_call 57; with_reducible refine (HNR.out _).mono ?_; rintro e w1 ⟨rfl, rfl⟩) | (go_at_call 58; with_reducible refine (HOf.out _).mono ?_; rintro e w1 ⟨rfl, rfl⟩))
            go_ret2
            exact ⟨by rw [HV2.out]; rfl, by (repeat (first | exact Below.refl _ _ | assumption | apply Below.drew | apply below_drewN | (refine Below.alloc ?_ (by first | omega | (simp; omega) | simp) _) | (refine Below.setCell ?_ (by first | omega | (simp; omega) | simp) _) | (refine Below.trans ?_ (Below.mono (by assumption) (by first | omega | (simp; omega) | simp)))))⟩
set_option maxRecDepth 100000 in
set_option maxHeartbeats 4000000 in
theorem rlpercent_dot (s : ByteArray) (w : World) (hs : s.size ≤ 9223372036854775807) (hf : s.data.toList ≠ fullT) (k : Nat) (hk : k < s.size) (hk2 : s[k] = 46) (hn : ∀ j (hj : j < s.size), j < k → s[j] ≠ 46) (u d : ByteArray) (hu : s.extract 0 k = u) (hdd : s.extract (k + 1) s.size = d) (hW : PctW s u d)
    (hus : u.size ≤ s.size) (hds : d.size ≤ s.size) :
    Calls Tryz.prog 14 #[.string s] w fun e w' => e = .returned (.tuple #[.int .i64 (pctT s.data.toList).1, .int .i64 (pctT s.data.toList).2]) ∧ Below w.heap.size w w' := by
  have g1 := is_full s
  rw [decide_eq_false hf] at g1
  have HN := Lib.hid hn
  have HF := Lib.hid hf
  have HW := Lib.hid hW
  have hA := fun w => rldigits_any u w (by omega)
  have hD := fun w => rldigits_any d w (by omega)
  have e9 : ((s[k].toNat : Int) == 46) = true := by rw [hk2]; rfl
  clear hn hf hW hus hds hk2
  go_enter Tryz.func14, Tryz.ntmps14
  go_wp2
  go_loop [4, 5, 6] (fun uv dv iv => ∃ i : Nat, i ≤ k ∧ iv = .int .i64 i ∧ uv = .string s ∧ dv = .string ⟨#[48, 48, 48]⟩) (fun _ _ iv => s.size - (intOf iv).toNat)
  case atStart => exact ⟨0, Nat.zero_le _, rfl, rfl, rfl⟩
  case round =>
    obtain ⟨i, hi, rfl, rfl, rfl⟩ := hrel
    by_cases hlt : i < k
    · have hlt2 : i < s.size := by omega
      have e8 : ((s[i].toNat : Int) == 46) = false := by
        rw [beq_eq_false_iff_ne]
        intro h
        exact HN.out i hlt2 hlt (UInt8.toNat_inj.1 (by show s[i].toNat = 46; omega))
      clear e9 hu hdd
      go_wp2
      go_round
      case rel => exact ⟨i + 1, by omega, by go_num, rfl, rfl⟩
      case measure => simp [intOf]; omega
    obtain rfl : i = k := by omega
    have c1 : (0 : Int) ≤ ↑i := by omega
    have c2 : (↑i : Int) ≤ ↑s.size := by omega
    have c3 : (0 : Int) ≤ ↑i + 1 := by omega
    have c4 : (↑i + 1 : Int) ≤ ↑s.size := by omega
    go_wp2
    go_region
    clear hu hdd e9
    cases h1 : dig3 u.data.toList
    · have HV := Lib.hid (HW.out.no1 HF.out h1)
      rw [h1] at hA
      have HA := Lib.hid hA
      clear hA hD h1
      go_wp2_with (go_at_call 56; with_reducible refine (HA.out _).mono ?_; rintro e w1 ⟨rfl, rfl⟩)
      go_ret2
      exact ⟨by rw [HV.out]; rfl, by (repeat (first | exact Below.refl _ _ | assumption | apply Below.drew | apply below_drewN | (refine Below.alloc ?_ (by first | omega | (simp; omega) | simp) _) | (refine Below.setCell ?_ (by first | omega | (simp; omega) | simp) _) | (refine Below.trans ?_ (Below.mono (by assumption) (by first | omega | (simp; omega) | simp)))))⟩
    rw [h1] at hA
    have HA := Lib.hid hA
    cases h2 : dig3 d.data.toList
    · have HV := Lib.hid (HW.out.no2 HF.out h2)
      rw [h2] at hD
      have HD := Lib.hid hD
      clear hA hD h1 h2
      go_wp2_with (first | (go_at_call 56; with_reducible refine (HA.out _).mono ?_; rintro e w1 ⟨rfl, rfl⟩) | (go_at_call 56; with_reducible refine (HD.out _).mono ?_; rintro e w1 ⟨rfl, rfl⟩))
      go_ret2
      exact ⟨by rw [HV.out]; rfl, by (repeat (first | exact Below.refl _ _ | assumption | apply Below.drew | apply below_drewN | (refine Below.alloc ?_ (by first | omega | (simp; omega) | simp) _) | (refine Below.setCell ?_ (by first | omega | (simp; omega) | simp) _) | (refine Below.trans ?_ (Below.mono (by assumption) (by first | omega | (simp; omega) | simp)))))⟩
    rw [h2] at hD
    have HD := Lib.hid hD
    have hU := dig3_iff.1 h1
    have hR := dig3_iff.1 h2
    rw [bytes_len] at hU hR
    have u0 : 0 < u.size := by omega
    by_cases h3 : 1 < u.size ∧ (u[0].toNat : Int) = 48
    · have HV := Lib.hid (HW.out.no3 HF.out u0 h3)
      obtain ⟨k1, k2⟩ := h3
      have e1 : ((u[0].toNat : Int) == 48) = true := by simpa using k2
      clear hA hD h1 h2 hU hR k2
      go_wp2_with (first | (go_at_call 56; with_reducible refine (HA.out _).mono ?_; rintro e w1 ⟨rfl, rfl⟩) | (go_at_call 56; with_reducible refine (HD.out _).mono ?_; rintro e w1 ⟨rfl, rfl⟩))
      go_ret2
      exact ⟨by rw [HV.out]; rfl, by (repeat (first | exact Below.refl _ _ | assumption | apply Below.drew | apply below_drewN | (refine Below.alloc ?_ (by first | omega | (simp; omega) | simp) _) | (refine Below.setCell ?_ (by first | omega | (simp; omega) | simp) _) | (refine Below.trans ?_ (Below.mono (by assumption) (by first | omega | (simp; omega) | simp)))))⟩
    have hv := HW.out.yes HF.out u0 h3 h1 h2
    have hx := dval_bd _ hU.2 (by rw [bytes_len]; omega)
    have hy := dval_bd _ (pad0_dgs hR.2) (by rw [pad0_len]; exact Nat.le_refl _)
    have HN1 := Lib.hid (fun w => rlnumber_any u w (by omega) hU.2)
    have HN2 := Lib.hid (fun (R : ByteArray) w (hR1 : R.data.toList = pad0 d.data.toList) => (show Calls Tryz.prog 57 #[.string R] w fun e w' => e = .returned (.int .i64 (dval (pad0 d.data.toList) : Int)) ∧ w = w' by
      have := rlnumber_any R w (by rw [← bytes_len, hR1, pad0_len]; exact Nat.le_refl _) (by rw [hR1]; exact pad0_dgs hR.2)
      rw [hR1] at this
      exact this))
    have HO := Lib.hid (fun w (h : ¬ 100000 < 1000 * (dval u.data.toList : Int) + (dval (pad0 d.data.toList) : Int)) => rlof_any (1000 * (dval u.data.toList : Int) + (dval (pad0 d.data.toList) : Int)) w (by omega) (by omega))
    have HP := Lib.hid (fun (R : ByteArray) (k : Nat) (hR1 : R.data.toList = d.data.toList ++ List.replicate k 48) (hR2 : R.size = 3) => (show R.data.toList = pad0 d.data.toList by
      have h5 := congrArg List.length hR1
      rw [bytes_len, List.length_append, List.length_replicate, bytes_len, hR2] at h5
      rw [hR1]
      exact pad0_fill (by rw [bytes_len]; omega) (by rw [bytes_len]; omega)))
    have hd3 : d.size ≤ 3 := by omega
    have HV := Lib.hid hv
    have x0 : (0 : Int) ≤ (dval u.data.toList : Int) := by omega
    have x1 : (dval u.data.toList : Int) ≤ 999 := by omega
    have y0 : (0 : Int) ≤ (dval (pad0 d.data.toList) : Int) := by omega
    have y1 : (dval (pad0 d.data.toList) : Int) ≤ 999 := by omega
    have HApp := Lib.hid (fun (R : ByteArray) (k : Nat) (hR1 : R.data.toList = d.data.toList ++ List.replicate k 48) => (show (R ++ ⟨#[48]⟩ : ByteArray).data.toList = d.data.toList ++ List.replicate (k + 1) 48 by
      rw [ByteArray.data_append, Array.toList_append, hR1, List.append_assoc, List.replicate_succ']))
    clear hA hD h1 h2 hU hR hv hx hy
    generalize (dval (pad0 d.data.toList) : Int) = y at *
    generalize (dval u.data.toList : Int) = x at *
    by_cases k1 : 1 < u.size
    · have e1 : ((u[0].toNat : Int) == 48) = false := by rw [beq_eq_false_iff_ne]; exact fun h => h3 ⟨k1, h⟩
      clear h3
      go_wp2_with (first | (go_at_call 56; with_reducible refine (HA.out _).mono ?_; rintro e w1 ⟨rfl, rfl⟩) | (go_at_call 56; with_reducible refine (HD.out _).mono ?_; rintro e w1 ⟨rfl, rfl⟩))
      go_loop [5] (fun rv => ∃ (R : ByteArray) (k : Nat), rv = .string R ∧ R.data.toList = d.data.toList ++ List.replicate k 48 ∧ R.size ≤ 3) (fun rv => 3 - sizeOfS rv)
      case atStart => exact ⟨d, 0, rfl, by simp, hd3⟩
      case round =>
        obtain ⟨R, k, rfl, hR1, hR2⟩ := hrel
        have HR1 := Lib.hid hR1
        by_cases hlt : R.size < 3
        · clear hR1
          go_wp2
          go_round
          case rel => exact ⟨_, k + 1, rfl, HApp.out R k HR1.out, by rw [ByteArray.size_append]; show R.size + 1 ≤ 3; omega⟩
          case measure => show 3 - (R ++ ⟨#[48]⟩ : ByteArray).size < 3 - R.size; rw [ByteArray.size_append]; show 3 - (R.size + 1) < _; omega
        · have hR3 := HP.out R k hR1 (by omega)
          have HNR := Lib.hid (fun w => HN2.out R w hR3)
          clear hR1 hR3
          by_cases hbig : 100000 < 1000 * x + y
          · have HV2 := Lib.hid (HV.out.trans (if_pos hbig))
            go_wp2_with (first | (go_at_call 57; with_reducible refine (HN1.out _).mono ?_; rintro e w1 ⟨rfl, rfl⟩) | (go_at_call 57; with_reducible refine (HNR.out _).mono ?_; rintro e w1 ⟨rfl, rfl⟩))
            go_ret2
            exact ⟨by rw [HV2.out]; rfl, by (repeat (first | exact Below.refl _ _ | assumption | apply Below.drew | apply below_drewN | (refine Below.alloc ?_ (by first | omega | (simp; omega) | simp) _) | (refine Below.setCell ?_ (by first | omega | (simp; omega) | simp) _) | (refine Below.trans ?_ (Below.mono (by assumption) (by first | omega | (simp; omega) | simp)))))⟩
          · have HV2 := Lib.hid (HV.out.trans (if_neg hbig))
            have HOf := Lib.hid (fun w => HO.out w (by omega))
            generalize ofN (1000 * x + y) = q at *
            go_wp2_with (first | (go_at_call 57; with_reducible refine (HN1.out _).mono ?_; rintro e w1 ⟨rfl, rfl⟩) | (go_at_call 57; with_reducible refine (HNR.out _).mono ?_; rintro e w1 ⟨rfl, rfl⟩) | (go_at_call 58; with_reducible refine (HOf.out _).mono ?_; rintro e w1 ⟨rfl, rfl⟩))
            go_ret2
            exact ⟨by rw [HV2.out]; rfl, by (repeat (first | exact Below.refl _ _ | assumption | apply Below.drew | apply below_drewN | (refine Below.alloc ?_ (by first | omega | (simp; omega) | simp) _) | (refine Below.setCell ?_ (by first | omega | (simp; omega) | simp) _) | (refine Below.trans ?_ (Below.mono (by assumption) (by first | omega | (simp; omega) | simp)))))⟩
    · clear h3
      go_wp2_with (first | (go_at_call 56; with_reducible refine (HA.out _).mono ?_; rintro e w1 ⟨rfl, rfl⟩) | (go_at_call 56; with_reducible refine (HD.out _).mono ?_; rintro e w1 ⟨rfl, rfl⟩))
      go_loop [5] (fun rv => ∃ (R : ByteArray) (k : Nat), rv = .string R ∧ R.data.toList = d.data.toList ++ List.replicate k 48 ∧ R.size ≤ 3) (fun rv => 3 - sizeOfS rv)
      case atStart => exact ⟨d, 0, rfl, by simp, hd3⟩
      case round =>
        obtain ⟨R, k, rfl, hR1, hR2⟩ := hrel
        have HR1 := Lib.hid hR1
        by_cases hlt : R.size < 3
        · clear hR1
          go_wp2
          go_round
          case rel => exact ⟨_, k + 1, rfl, HApp.out R k HR1.out, by rw [ByteArray.size_append]; show R.size + 1 ≤ 3; omega⟩
          case measure => show 3 - (R ++ ⟨#[48]⟩ : ByteArray).size < 3 - R.size; rw [ByteArray.size_append]; show 3 - (R.size + 1) < _; omega
        · have hR3 := HP.out R k hR1 (by omega)
          have HNR := Lib.hid (fun w => HN2.out R w hR3)
          clear hR1 hR3
          by_cases hbig : 100000 < 1000 * x + y
          · have HV2 := Lib.hid (HV.out.trans (if_pos hbig))
            go_wp2_with (first | (go_at_call 57; with_reducible refine (HN1.out _).mono ?_; rintro e w1 ⟨rfl, rfl⟩) | (go_at_call 57; with_reducible refine (HNR.out _).mono ?_; rintro e w1 ⟨rfl, rfl⟩))
            go_ret2
            exact ⟨by rw [HV2.out]; rfl, by (repeat (first | exact Below.refl _ _ | assumption | apply Below.drew | apply below_drewN | (refine Below.alloc ?_ (by first | omega | (simp; omega) | simp) _) | (refine Below.setCell ?_ (by first | omega | (simp; omega) | simp) _) | (refine Below.trans ?_ (Below.mono (by assumption) (by first | omega | (simp; omega) | simp)))))⟩
          · have HV2 := Lib.hid (HV.out.trans (if_neg hbig))
            have HOf := Lib.hid (fun w => HO.out w (by omega))
            generalize ofN (1000 * x + y) = q at *
            go_wp2_with (first | (go_at_call 57; with_reducible refine (HN1.out _).mono ?_; rintro e w1 ⟨rfl, rfl⟩) | (go_at_call 57; with_reducible refine (HNR.out _).mono ?_; rintro e w1 ⟨rfl, rfl⟩) | (go_at_call 58; with_reducible refine (HOf.out _).mono ?_; rintro e w1 ⟨rfl, rfl⟩))
            go_ret2
            exact ⟨by rw [HV2.out]; rfl, by (repeat (first | exact Below.refl _ _ | assumption | apply Below.drew | apply below_drewN | (refine Below.alloc ?_ (by first | omega | (simp; omega) | simp) _) | (refine Below.setCell ?_ (by first | omega | (simp; omega) | simp) _) | (refine Below.trans ?_ (Below.mono (by assumption) (by first | omega | (simp; omega) | simp)))))⟩
end Go.Proofs.YtjbhfkcjmjhhdaaGreatDoor

namespace Go.Proofs.YtjbhfkcjmjhhdaaGreatDoor
open Go.RowKit

def rawT (raw bits : Int) : Int × Int :=
  if bits ≠ 8 ∧ bits ≠ 16 then (0, 1) else if raw < 0 ∨ (bits = 8 ∧ 255 < raw) ∨ 65535 < raw then (0, 2) else (if bits = 8 then 257 * raw else raw, 0)
def splitT (raw : Int) : Int × Int × Int := if 0 ≤ raw ∧ raw ≤ 65535 then (raw / 256, raw % 256, 0) else (0, 0, 2)
def joinT (a b : Int) : Int × Int := if 0 ≤ a ∧ a ≤ 255 ∧ 0 ≤ b ∧ b ≤ 255 then (256 * a + b, 0) else (0, 2)
def scaleT (v b : Int) : Int × Int := if (0 ≤ v ∧ v ≤ 65535) ∧ 0 ≤ b ∧ b ≤ 65535 then ((2 * v * b + 65535) / 131070, 0) else (0, 2)
def enI (k v : Int) (b : Nat) : MapEntry := { key := .int .i64 k, val := .int .i64 v, born := b }
def stepsM : Array MapEntry := #[enI 8 257 0, enI 16 1 1]
theorem findI1 : Instr.findNow (.int .i64) (.int .i64 8) (#[] : Array MapEntry).toList 0 = some none := rfl
theorem findI2 : Instr.findNow (.int .i64) (.int .i64 16) (#[enI 8 257 0] : Array MapEntry).toList 0 = some none := by simp [Instr.findNow, Instr.sameNow, enI]
set_option maxRecDepth 100000 in
set_option maxHeartbeats 4000000 in
theorem vOf_step (raw bits st : Int) (w : World) (R : Int × Int)
    (hl : ∀ (W : World) (M : Nat), W.heap[M]? = some (.map stepsM 2) → (Instr.lookup 103 (.map (some M)) (.int .i64 bits) false).run Tryz.prog W = .ok (.int .i64 st) W)
    (hcase : (st = 0 ∧ R = (0, 1)) ∨ (st = 257 ∧ ((raw < 0 ∨ 255 < raw) ∧ R = (0, 2) ∨ (0 ≤ raw ∧ raw ≤ 255) ∧ R = (raw * 257, 0))) ∨ (st = 1 ∧ ((raw < 0 ∨ 65535 < raw) ∧ R = (0, 2) ∨ (0 ≤ raw ∧ raw ≤ 65535) ∧ R = (raw, 0)))) :
    Calls Tryz.prog 41 #[.int .i64 raw, .int .i64 bits] w fun e w' => e = .returned (.tuple #[.int .i64 R.1, .int .i64 R.2]) ∧ Below w.heap.size w w' := by
  have hmm : ∀ w, (Instr.makeMap 103 none).run Tryz.prog w = .ok (.map (some w.heap.size)) (w.alloc (.map #[] 0)) := fun w => run_makeMap _ w
  have HH := Lib.hid (heap_push w (.map #[] 0))
  have b1 : Below w.heap.size w (w.alloc (.map #[] 0)) := (Below.refl _ w).alloc (Nat.le_refl _) _
  have HL := Lib.hid hl
  have hfin : ∀ W3, (w.alloc (.map #[] 0)).grownBy W3 (some w.heap.size) → Below w.heap.size w W3 := fun W3 g => b1.grown g (by simp) (fun k e => by injection e with e; omega)
  have HFi := Lib.hid hfin
  clear b1 hl hfin
  have tok1 : True := trivial
  rcases hcase with ⟨rfl, rfl⟩ | ⟨rfl, ⟨hr, rfl⟩ | ⟨⟨r0, r1⟩, rfl⟩⟩ | ⟨rfl, ⟨hr, rfl⟩ | ⟨⟨r0, r1⟩, rfl⟩⟩
  · go_enter Tryz.func41, Tryz.ntmps41
    go_wp2_with (first | (have _t := tok1; refine wpList_insert_lit _ rfl _ _ _ 103 rfl 3 3 (.int .i64) Tryz.underlying103 Tryz.underlying3 w.heap.size 0 #[] _ _ rfl rfl rfl rfl HH.out findI1 ?_; intro W2 h g; have HH2 := Lib.hid (show W2.heap[w.heap.size]? = some (.map #[enI 8 257 0] 1) from h); have HG2 := Lib.hid g; clear h g tok1 _t; have tok2 : True := trivial) | (have _t := tok2; refine wpList_insert_lit _ rfl _ _ _ 103 rfl 3 3 (.int .i64) Tryz.underlying103 Tryz.underlying3 w.heap.size 1 #[enI 8 257 0] _ _ rfl rfl rfl rfl HH2.out findI2 ?_; intro W3 h g; have kl := HL.out W3 w.heap.size h; have HG3 := Lib.hid g; clear h g tok2 _t))
    go_ret2
    exact ⟨rfl, HFi.out _ (HG2.out.trans HG3.out)⟩
  · rcases hr with hr | hr
    · go_enter Tryz.func41, Tryz.ntmps41
      go_wp2_with (first | (have _t := tok1; refine wpList_insert_lit _ rfl _ _ _ 103 rfl 3 3 (.int .i64) Tryz.underlying103 Tryz.underlying3 w.heap.size 0 #[] _ _ rfl rfl rfl rfl HH.out findI1 ?_; intro W2 h g; have HH2 := Lib.hid (show W2.heap[w.heap.size]? = some (.map #[enI 8 257 0] 1) from h); have HG2 := Lib.hid g; clear h g tok1 _t; have tok2 : True := trivial) | (have _t := tok2; refine wpList_insert_lit _ rfl _ _ _ 103 rfl 3 3 (.int .i64) Tryz.underlying103 Tryz.underlying3 w.heap.size 1 #[enI 8 257 0] _ _ rfl rfl rfl rfl HH2.out findI2 ?_; intro W3 h g; have kl := HL.out W3 w.heap.size h; have HG3 := Lib.hid g; clear h g tok2 _t))
      go_ret2
      exact ⟨rfl, HFi.out _ (HG2.out.trans HG3.out)⟩
    · have hr' : ¬ raw < 0 := by omega
      go_enter Tryz.func41, Tryz.ntmps41
      go_wp2_with (first | (have _t := tok1; refine wpList_insert_lit _ rfl _ _ _ 103 rfl 3 3 (.int .i64) Tryz.underlying103 Tryz.underlying3 w.heap.size 0 #[] _ _ rfl rfl rfl rfl HH.out findI1 ?_; intro W2 h g; have HH2 := Lib.hid (show W2.heap[w.heap.size]? = some (.map #[enI 8 257 0] 1) from h); have HG2 := Lib.hid g; clear h g tok1 _t; have tok2 : True := trivial) | (have _t := tok2; refine wpList_insert_lit _ rfl _ _ _ 103 rfl 3 3 (.int .i64) Tryz.underlying103 Tryz.underlying3 w.heap.size 1 #[enI 8 257 0] _ _ rfl rfl rfl rfl HH2.out findI2 ?_; intro W3 h g; have kl := HL.out W3 w.heap.size h; have HG3 := Lib.hid g; clear h g tok2 _t))
      go_ret2
      exact ⟨rfl, HFi.out _ (HG2.out.trans HG3.out)⟩
  · go_enter Tryz.func41, Tryz.ntmps41
    go_wp2_with (first | (have _t := tok1; refine wpList_insert_lit _ rfl _ _ _ 103 rfl 3 3 (.int .i64) Tryz.underlying103 Tryz.underlying3 w.heap.size 0 #[] _ _ rfl rfl rfl rfl HH.out findI1 ?_; intro W2 h g; have HH2 := Lib.hid (show W2.heap[w.heap.size]? = some (.map #[enI 8 257 0] 1) from h); have HG2 := Lib.hid g; clear h g tok1 _t; have tok2 : True := trivial) | (have _t := tok2; refine wpList_insert_lit _ rfl _ _ _ 103 rfl 3 3 (.int .i64) Tryz.underlying103 Tryz.underlying3 w.heap.size 1 #[enI 8 257 0] _ _ rfl rfl rfl rfl HH2.out findI2 ?_; intro W3 h g; have kl := HL.out W3 w.heap.size h; have HG3 := Lib.hid g; clear h g tok2 _t))
    go_ret2
    exact ⟨rfl, HFi.out _ (HG2.out.trans HG3.out)⟩
  · rcases hr with hr | hr
    · go_enter Tryz.func41, Tryz.ntmps41
      go_wp2_with (first | (have _t := tok1; refine wpList_insert_lit _ rfl _ _ _ 103 rfl 3 3 (.int .i64) Tryz.underlying103 Tryz.underlying3 w.heap.size 0 #[] _ _ rfl rfl rfl rfl HH.out findI1 ?_; intro W2 h g; have HH2 := Lib.hid (show W2.heap[w.heap.size]? = some (.map #[enI 8 257 0] 1) from h); have HG2 := Lib.hid g; clear h g tok1 _t; have tok2 : True := trivial) | (have _t := tok2; refine wpList_insert_lit _ rfl _ _ _ 103 rfl 3 3 (.int .i64) Tryz.underlying103 Tryz.underlying3 w.heap.size 1 #[enI 8 257 0] _ _ rfl rfl rfl rfl HH2.out findI2 ?_; intro W3 h g; have kl := HL.out W3 w.heap.size h; have HG3 := Lib.hid g; clear h g tok2 _t))
      go_ret2
      exact ⟨rfl, HFi.out _ (HG2.out.trans HG3.out)⟩
    · have hr' : ¬ raw < 0 := by omega
      go_enter Tryz.func41, Tryz.ntmps41
      go_wp2_with (first | (have _t := tok1; refine wpList_insert_lit _ rfl _ _ _ 103 rfl 3 3 (.int .i64) Tryz.underlying103 Tryz.underlying3 w.heap.size 0 #[] _ _ rfl rfl rfl rfl HH.out findI1 ?_; intro W2 h g; have HH2 := Lib.hid (show W2.heap[w.heap.size]? = some (.map #[enI 8 257 0] 1) from h); have HG2 := Lib.hid g; clear h g tok1 _t; have tok2 : True := trivial) | (have _t := tok2; refine wpList_insert_lit _ rfl _ _ _ 103 rfl 3 3 (.int .i64) Tryz.underlying103 Tryz.underlying3 w.heap.size 1 #[enI 8 257 0] _ _ rfl rfl rfl rfl HH2.out findI2 ?_; intro W3 h g; have kl := HL.out W3 w.heap.size h; have HG3 := Lib.hid g; clear h g tok2 _t))
      go_ret2
      exact ⟨rfl, HFi.out _ (HG2.out.trans HG3.out)⟩
  · go_enter Tryz.func41, Tryz.ntmps41
    go_wp2_with (first | (have _t := tok1; refine wpList_insert_lit _ rfl _ _ _ 103 rfl 3 3 (.int .i64) Tryz.underlying103 Tryz.underlying3 w.heap.size 0 #[] _ _ rfl rfl rfl rfl HH.out findI1 ?_; intro W2 h g; have HH2 := Lib.hid (show W2.heap[w.heap.size]? = some (.map #[enI 8 257 0] 1) from h); have HG2 := Lib.hid g; clear h g tok1 _t; have tok2 : True := trivial) | (have _t := tok2; refine wpList_insert_lit _ rfl _ _ _ 103 rfl 3 3 (.int .i64) Tryz.underlying103 Tryz.underlying3 w.heap.size 1 #[enI 8 257 0] _ _ rfl rfl rfl rfl HH2.out findI2 ?_; intro W3 h g; have kl := HL.out W3 w.heap.size h; have HG3 := Lib.hid g; clear h g tok2 _t))
    go_ret2
    exact ⟨rfl, HFi.out _ (HG2.out.trans HG3.out)⟩
theorem vOf_any (raw bits : Int) (w : World) :
    Calls Tryz.prog 41 #[.int .i64 raw, .int .i64 bits] w fun e w' => e = .returned (.tuple #[.int .i64 (rawT raw bits).1, .int .i64 (rawT raw bits).2]) ∧ Below w.heap.size w w' := by
  have L := fun (W : World) (M : Nat) (h : W.heap[M]? = some (.map stepsM 2)) => fun key val i hi hf => run_look (P := Tryz.prog) (w := W) 103 3 3 (.int .i64) M 2 i stepsM key val Tryz.underlying103 Tryz.underlying3 hi h hf
  have N := fun (W : World) (M : Nat) (h : W.heap[M]? = some (.map stepsM 2)) => fun key hi hf => run_miss (P := Tryz.prog) (w := W) 103 3 3 (.int .i64) M 2 stepsM key (.int .i64 0) Tryz.underlying103 Tryz.underlying3 hi h hf (by kernel_rfl)
  by_cases h8 : bits = 8
  · subst h8
    refine vOf_step raw 8 257 w _ (fun W M h => L W M h _ _ 0 rfl (by simp [stepsM, Instr.findNow, Instr.sameNow, enI])) (.inr (.inl ⟨rfl, ?_⟩))
    unfold rawT
    by_cases hr : raw < 0 ∨ 255 < raw
    · refine .inl ⟨hr, ?_⟩
      rw [if_neg (by omega), if_pos (by omega)]
    · refine .inr ⟨by omega, ?_⟩
      rw [if_neg (by omega), if_neg (by omega), if_pos rfl, Int.mul_comm]
  by_cases h16 : bits = 16
  · subst h16
    refine vOf_step raw 16 1 w _ (fun W M h => L W M h _ _ 1 rfl (by simp [stepsM, Instr.findNow, Instr.sameNow, enI])) (.inr (.inr ⟨rfl, ?_⟩))
    unfold rawT
    by_cases hr : raw < 0 ∨ 65535 < raw
    · refine .inl ⟨hr, ?_⟩
      rw [if_neg (by omega), if_pos (by omega)]
    · refine .inr ⟨by omega, ?_⟩
      rw [if_neg (by omega), if_neg (by omega), if_neg (by omega)]
  · refine vOf_step raw bits 0 w _ (fun W M h => N W M h _ rfl (by simp [stepsM, Instr.findNow, Instr.sameNow, enI, show (bits == 8) = false by simpa using h8, show (bits == 16) = false by simpa using h16])) (.inl ⟨rfl, ?_⟩)
    unfold rawT
    rw [if_pos ⟨h8, h16⟩]
set_option maxHeartbeats 1000000 in
theorem rlraw_any (raw bits : Int) (w : World) :
    Calls Tryz.prog 42 #[.int .i64 raw, .int .i64 bits] w fun e w' => e = .returned (.tuple #[.int .i64 (rawT raw bits).1, .int .i64 (rawT raw bits).2]) ∧ w = w' := by
  by_cases h8 : bits = 8
  · subst h8
    by_cases hr : raw < 0
    · have HV := Lib.hid (show rawT raw 8 = (0, 2) by unfold rawT; rw [if_neg (by omega), if_pos (by omega)])
      go_enter Tryz.func42, Tryz.ntmps42
      go_wp2
      go_ret2
      exact ⟨by rw [HV.out]; rfl, rfl⟩
    · by_cases hr2 : 255 < raw
      · have HV := Lib.hid (show rawT raw 8 = (0, 2) by unfold rawT; rw [if_neg (by omega), if_pos (by omega)])
        go_enter Tryz.func42, Tryz.ntmps42
        go_wp2
        go_ret2
        exact ⟨by rw [HV.out]; rfl, rfl⟩
      · have HV := Lib.hid (show rawT raw 8 = (257 * raw, 0) by unfold rawT; rw [if_neg (by omega), if_neg (by omega), if_pos rfl])
        have hr3 : ¬ 65535 < raw := by omega
        go_enter Tryz.func42, Tryz.ntmps42
        go_wp2
        go_ret2
        exact ⟨by rw [HV.out]; rfl, rfl⟩
  have g8 : (bits == 8) = false := by simpa using h8
  have g8' : (bits != 8) = true := by simpa using h8
  by_cases h16 : bits = 16
  · subst h16
    by_cases hr : raw < 0
    · have HV := Lib.hid (show rawT raw 16 = (0, 2) by unfold rawT; rw [if_neg (by omega), if_pos (by omega)])
      go_enter Tryz.func42, Tryz.ntmps42
      go_wp2
      go_ret2
      exact ⟨by rw [HV.out]; rfl, rfl⟩
    · by_cases hr2 : 65535 < raw
      · have HV := Lib.hid (show rawT raw 16 = (0, 2) by unfold rawT; rw [if_neg (by omega), if_pos (by omega)])
        go_enter Tryz.func42, Tryz.ntmps42
        go_wp2
        go_ret2
        exact ⟨by rw [HV.out]; rfl, rfl⟩
      · have HV := Lib.hid (show rawT raw 16 = (raw, 0) by unfold rawT; rw [if_neg (by omega), if_neg (by omega), if_neg (by omega)])
        go_enter Tryz.func42, Tryz.ntmps42
        go_wp2
        go_ret2
        exact ⟨by rw [HV.out]; rfl, rfl⟩
  have g16 : (bits == 16) = false := by simpa using h16
  have g16' : (bits != 16) = true := by simpa using h16
  have HV := Lib.hid (show rawT raw bits = (0, 1) by unfold rawT; rw [if_pos ⟨h8, h16⟩])
  clear h8 h16
  go_enter Tryz.func42, Tryz.ntmps42
  go_wp2
  go_ret2
  exact ⟨by rw [HV.out]; rfl, rfl⟩
end Go.Proofs.YtjbhfkcjmjhhdaaGreatDoor

namespace Go.Proofs.YtjbhfkcjmjhhdaaGreatDoor
open Go.RowKit

theorem wraps_i64s (n : Int) (h₀ : 0 ≤ n) (h₁ : n < 2 ^ 16) : IntKind.i64.wrap n = n := by rw [IntKind.wrap_i64]; omega
theorem and255 {x : Int} (h0 : 0 ≤ x) (h1 : x ≤ 65535) : bits .and .i64 x 255 = x % 256 := bits_mask .i64 16 (by decide) wraps_i64s 8 (by decide) x h0 (by omega)
theorem or256 {a b : Int} (h0 : 0 ≤ a) (h1 : a ≤ 255) (h2 : 0 ≤ b) (h3 : b ≤ 255) : bits .or .i64 (a * 256) b = a * 256 + b :=
  bits_join .i64 16 (by decide) wraps_i64s 8 (a * 256) b (by omega) (by omega) (by omega) h2 (by omega) (by omega)
set_option maxHeartbeats 1000000 in
theorem vsplit_any (raw : Int) (w : World) :
    Calls Tryz.prog 43 #[.int .i64 raw] w fun e w' => e = .returned (.tuple #[.int .i64 (splitT raw).1, .int .i64 (splitT raw).2.1, .int .i64 (splitT raw).2.2]) ∧ w = w' := by
  have hC := fun w => vcheck_any raw w
  by_cases h : 0 ≤ raw ∧ raw ≤ 65535
  · have HV := Lib.hid (show splitT raw = (raw / 256, raw % 256, 0) by unfold splitT; rw [if_pos h])
    simp only [if_pos h] at hC
    have HC := Lib.hid hC
    obtain ⟨h0, h1⟩ := h
    have hb := and255 h0 h1
    clear hC
    go_enter Tryz.func43, Tryz.ntmps43
    go_wp2_with (go_at_call 18; refine (HC.out _).mono ?_; rintro e w1 ⟨rfl, rfl⟩)
    go_ret3
    exact ⟨by rw [HV.out]; rfl, rfl⟩
  · have HV := Lib.hid (show splitT raw = (0, 0, 2) by unfold splitT; rw [if_neg h])
    simp only [if_neg h] at hC
    have HC := Lib.hid hC
    clear hC h
    go_enter Tryz.func43, Tryz.ntmps43
    go_wp2_with (go_at_call 18; refine (HC.out _).mono ?_; rintro e w1 ⟨rfl, rfl⟩)
    go_ret3
    exact ⟨by rw [HV.out]; rfl, rfl⟩
theorem rlsplit_any (raw : Int) (w : World) :
    Calls Tryz.prog 44 #[.int .i64 raw] w fun e w' => e = .returned (.tuple #[.int .i64 (splitT raw).1, .int .i64 (splitT raw).2.1, .int .i64 (splitT raw).2.2]) ∧ w = w' := by
  by_cases h0 : raw < 0
  · have HV := Lib.hid (show splitT raw = (0, 0, 2) by unfold splitT; rw [if_neg (by omega)])
    go_enter Tryz.func44, Tryz.ntmps44
    go_wp2
    go_ret3
    exact ⟨by rw [HV.out]; rfl, rfl⟩
  · by_cases h1 : 65535 < raw
    · have HV := Lib.hid (show splitT raw = (0, 0, 2) by unfold splitT; rw [if_neg (by omega)])
      go_enter Tryz.func44, Tryz.ntmps44
      go_wp2
      go_ret3
      exact ⟨by rw [HV.out]; rfl, rfl⟩
    · have HV := Lib.hid (show splitT raw = (raw / 256, raw % 256, 0) by unfold splitT; rw [if_pos (by omega)])
      have h2 : 0 ≤ raw := by omega
      have h3 : raw ≤ 65535 := by omega
      go_enter Tryz.func44, Tryz.ntmps44
      go_wp2
      go_ret3
      exact ⟨by rw [HV.out]; rfl, rfl⟩
set_option maxHeartbeats 1000000 in
theorem vjoin_any (a b : Int) (w : World) :
    Calls Tryz.prog 45 #[.int .i64 a, .int .i64 b] w fun e w' => e = .returned (.tuple #[.int .i64 (joinT a b).1, .int .i64 (joinT a b).2]) ∧ w = w' := by
  by_cases h0 : a < 0
  · have HV := Lib.hid (show joinT a b = (0, 2) by unfold joinT; rw [if_neg (by omega)])
    go_enter Tryz.func45, Tryz.ntmps45
    go_wp2
    go_ret2
    exact ⟨by rw [HV.out]; rfl, rfl⟩
  by_cases h1 : 255 < a
  · have HV := Lib.hid (show joinT a b = (0, 2) by unfold joinT; rw [if_neg (by omega)])
    go_enter Tryz.func45, Tryz.ntmps45
    go_wp2
    go_ret2
    exact ⟨by rw [HV.out]; rfl, rfl⟩
  by_cases h2 : b < 0
  · have HV := Lib.hid (show joinT a b = (0, 2) by unfold joinT; rw [if_neg (by omega)])
    go_enter Tryz.func45, Tryz.ntmps45
    go_wp2
    go_ret2
    exact ⟨by rw [HV.out]; rfl, rfl⟩
  by_cases h3 : 255 < b
  · have HV := Lib.hid (show joinT a b = (0, 2) by unfold joinT; rw [if_neg (by omega)])
    go_enter Tryz.func45, Tryz.ntmps45
    go_wp2
    go_ret2
    exact ⟨by rw [HV.out]; rfl, rfl⟩
  have a0 : 0 ≤ a := by omega
  have a1 : a ≤ 255 := by omega
  have b0 : 0 ≤ b := by omega
  have b1 : b ≤ 255 := by omega
  have HV := Lib.hid (show joinT a b = (a * 256 + b, 0) by unfold joinT; rw [if_pos ⟨a0, a1, b0, b1⟩]; congr 1; omega)
  have hb := or256 a0 a1 b0 b1
  clear h0 h1 h2 h3
  go_enter Tryz.func45, Tryz.ntmps45
  go_wp2
  go_ret2
  exact ⟨by rw [HV.out]; rfl, rfl⟩
set_option maxHeartbeats 1000000 in
theorem rljoin_any (a b : Int) (w : World) :
    Calls Tryz.prog 46 #[.int .i64 a, .int .i64 b] w fun e w' => e = .returned (.tuple #[.int .i64 (joinT a b).1, .int .i64 (joinT a b).2]) ∧ w = w' := by
  by_cases h0 : a < 0
  · have HV := Lib.hid (show joinT a b = (0, 2) by unfold joinT; rw [if_neg (by omega)])
    go_enter Tryz.func46, Tryz.ntmps46
    go_wp2
    go_ret2
    exact ⟨by rw [HV.out]; rfl, rfl⟩
  by_cases h1 : 255 < a
  · have HV := Lib.hid (show joinT a b = (0, 2) by unfold joinT; rw [if_neg (by omega)])
    go_enter Tryz.func46, Tryz.ntmps46
    go_wp2
    go_ret2
    exact ⟨by rw [HV.out]; rfl, rfl⟩
  by_cases h2 : b < 0
  · have HV := Lib.hid (show joinT a b = (0, 2) by unfold joinT; rw [if_neg (by omega)])
    go_enter Tryz.func46, Tryz.ntmps46
    go_wp2
    go_ret2
    exact ⟨by rw [HV.out]; rfl, rfl⟩
  by_cases h3 : 255 < b
  · have HV := Lib.hid (show joinT a b = (0, 2) by unfold joinT; rw [if_neg (by omega)])
    go_enter Tryz.func46, Tryz.ntmps46
    go_wp2
    go_ret2
    exact ⟨by rw [HV.out]; rfl, rfl⟩
  have a0 : 0 ≤ a := by omega
  have a1 : a ≤ 255 := by omega
  have b0 : 0 ≤ b := by omega
  have b1 : b ≤ 255 := by omega
  have HV := Lib.hid (show joinT a b = (256 * a + b, 0) by unfold joinT; rw [if_pos ⟨a0, a1, b0, b1⟩])
  skip
  clear h0 h1 h2 h3
  go_enter Tryz.func46, Tryz.ntmps46
  go_wp2
  go_ret2
  exact ⟨by rw [HV.out]; rfl, rfl⟩
theorem prod_bd {a b : Int} (h0 : 0 ≤ a) (h1 : a ≤ 65535) (h2 : 0 ≤ b) (h3 : b ≤ 65535) : 0 ≤ 2 * a * b ∧ 2 * a * b ≤ 8589672450 := by
  have e1 : 0 ≤ a * b := Int.mul_nonneg h0 h2
  have e2 : a * b ≤ 65535 * 65535 := Int.mul_le_mul h1 h3 h2 (by omega)
  rw [Int.mul_assoc]
  omega
set_option maxHeartbeats 1000000 in
theorem vscale_any (a b : Int) (w : World) :
    Calls Tryz.prog 23 #[.int .i64 a, .int .i64 b] w fun e w' => e = .returned (.tuple #[.int .i64 (scaleT a b).1, .int .i64 (scaleT a b).2]) ∧ w = w' := by
  have hC := fun w => vcheck_any a w
  have hD := fun w => vcheck_any b w
  by_cases ha : 0 ≤ a ∧ a ≤ 65535
  · simp only [if_pos ha] at hC
    have HC := Lib.hid hC
    by_cases hb : 0 ≤ b ∧ b ≤ 65535
    · have HV := Lib.hid (show scaleT a b = ((2 * a * b + 65535) / 131070, 0) by unfold scaleT; rw [if_pos ⟨ha, hb⟩])
      simp only [if_pos hb] at hD
      have HD := Lib.hid hD
      obtain ⟨h0, h1⟩ := ha
      obtain ⟨h2, h3⟩ := hb
      obtain ⟨p0, p1⟩ := prod_bd h0 h1 h2 h3
      clear hC hD
      go_enter Tryz.func23, Tryz.ntmps23
      go_wp2_with (first | (go_at_call 18; with_reducible refine (HC.out _).mono ?_; rintro e w1 ⟨rfl, rfl⟩) | (go_at_call 18; with_reducible refine (HD.out _).mono ?_; rintro e w1 ⟨rfl, rfl⟩))
      go_ret2
      exact ⟨by rw [HV.out]; rfl, rfl⟩
    · have HV := Lib.hid (show scaleT a b = (0, 2) by unfold scaleT; rw [if_neg (fun h => hb h.2)])
      simp only [if_neg hb] at hD
      have HD := Lib.hid hD
      clear hC hD ha hb
      go_enter Tryz.func23, Tryz.ntmps23
      go_wp2_with (first | (go_at_call 18; with_reducible refine (HC.out _).mono ?_; rintro e w1 ⟨rfl, rfl⟩) | (go_at_call 18; with_reducible refine (HD.out _).mono ?_; rintro e w1 ⟨rfl, rfl⟩))
      go_ret2
      exact ⟨by rw [HV.out]; rfl, rfl⟩
  · have HV := Lib.hid (show scaleT a b = (0, 2) by unfold scaleT; rw [if_neg (fun h => ha h.1)])
    simp only [if_neg ha] at hC
    have HC := Lib.hid hC
    clear hC hD ha
    go_enter Tryz.func23, Tryz.ntmps23
    go_wp2_with (go_at_call 18; with_reducible refine (HC.out _).mono ?_; rintro e w1 ⟨rfl, rfl⟩)
    go_ret2
    exact ⟨by rw [HV.out]; rfl, rfl⟩
set_option maxHeartbeats 1000000 in
theorem rlis_any (v : Int) (w : World) :
    Calls Tryz.prog 60 #[.int .i64 v] w fun e w' => e = .returned (.bool (decide (0 ≤ v ∧ v ≤ 65535))) ∧ w = w' := by
  by_cases h0 : 0 ≤ v
  · by_cases h1 : v ≤ 65535
    · rw [decide_eq_true ⟨h0, h1⟩]
      go_enter Tryz.func60, Tryz.ntmps60
      go_wp2
      go_ret
      exact ⟨rfl, rfl⟩
    · rw [decide_eq_false (fun h => h1 h.2)]
      go_enter Tryz.func60, Tryz.ntmps60
      go_wp2
      go_ret
      exact ⟨rfl, rfl⟩
  · rw [decide_eq_false (fun h => h0 h.1)]
    go_enter Tryz.func60, Tryz.ntmps60
    go_wp2
    go_ret
    exact ⟨rfl, rfl⟩
set_option maxHeartbeats 1000000 in
theorem rlcheck_any (v : Int) (w : World) :
    Calls Tryz.prog 19 #[.int .i64 v] w fun e w' => e = .returned (.int .i64 (if 0 ≤ v ∧ v ≤ 65535 then 0 else 2)) ∧ w = w' := by
  have hI := fun w => rlis_any v w
  by_cases h : 0 ≤ v ∧ v ≤ 65535
  · rw [if_pos h]
    simp only [decide_eq_true h] at hI
    have HI := Lib.hid hI
    clear hI h
    go_enter Tryz.func19, Tryz.ntmps19
    go_wp2_with (go_at_call 60; refine (HI.out _).mono ?_; rintro e w1 ⟨rfl, rfl⟩)
    go_ret
    exact ⟨rfl, rfl⟩
  · rw [if_neg h]
    simp only [decide_eq_false h] at hI
    have HI := Lib.hid hI
    clear hI h
    go_enter Tryz.func19, Tryz.ntmps19
    go_wp2_with (go_at_call 60; refine (HI.out _).mono ?_; rintro e w1 ⟨rfl, rfl⟩)
    go_ret
    exact ⟨rfl, rfl⟩
set_option maxHeartbeats 1000000 in
theorem rlscale_any (a b : Int) (w : World) :
    Calls Tryz.prog 47 #[.int .i64 a, .int .i64 b] w fun e w' => e = .returned (.tuple #[.int .i64 (scaleT a b).1, .int .i64 (scaleT a b).2]) ∧ w = w' := by
  have hC := fun w => rlis_any a w
  have hD := fun w => rlis_any b w
  by_cases ha : 0 ≤ a ∧ a ≤ 65535
  · simp only [decide_eq_true ha] at hC
    have HC := Lib.hid hC
    by_cases hb : 0 ≤ b ∧ b ≤ 65535
    · have HV := Lib.hid (show scaleT a b = ((2 * a * b + 65535) / 131070, 0) by unfold scaleT; rw [if_pos ⟨ha, hb⟩])
      simp only [decide_eq_true hb] at hD
      have HD := Lib.hid hD
      obtain ⟨h0, h1⟩ := ha
      obtain ⟨h2, h3⟩ := hb
      obtain ⟨p0, p1⟩ := prod_bd h0 h1 h2 h3
      have HS := Lib.hid (fun w => show Calls Tryz.prog 85 #[.int .i64 a, .int .i64 b] w fun e w' => e = .returned (.int .i64 ((2 * a * b + 65535) / 131070)) ∧ w = w' by
        go_enter Tryz.func85, Tryz.ntmps85
        go_wp2
        go_ret
        exact ⟨rfl, rfl⟩)
      clear hC hD h0 h1 h2 h3 p0 p1
      generalize (2 * a * b + 65535) / 131070 = x at *
      go_enter Tryz.func47, Tryz.ntmps47
      go_wp2_with (first | (go_at_call 60; with_reducible refine (HC.out _).mono ?_; rintro e w1 ⟨rfl, rfl⟩) | (go_at_call 60; with_reducible refine (HD.out _).mono ?_; rintro e w1 ⟨rfl, rfl⟩) | (go_at_call 85; with_reducible refine (HS.out _).mono ?_; rintro e w1 ⟨rfl, rfl⟩))
      go_ret2
      exact ⟨by rw [HV.out]; rfl, rfl⟩
    · have HV := Lib.hid (show scaleT a b = (0, 2) by unfold scaleT; rw [if_neg (fun h => hb h.2)])
      simp only [decide_eq_false hb] at hD
      have HD := Lib.hid hD
      clear hC hD ha hb
      go_enter Tryz.func47, Tryz.ntmps47
      go_wp2_with (first | (go_at_call 60; with_reducible refine (HC.out _).mono ?_; rintro e w1 ⟨rfl, rfl⟩) | (go_at_call 60; with_reducible refine (HD.out _).mono ?_; rintro e w1 ⟨rfl, rfl⟩))
      go_ret2
      exact ⟨by rw [HV.out]; rfl, rfl⟩
  · have HV := Lib.hid (show scaleT a b = (0, 2) by unfold scaleT; rw [if_neg (fun h => ha h.1)])
    simp only [decide_eq_false ha] at hC
    have HC := Lib.hid hC
    clear hC hD ha
    go_enter Tryz.func47, Tryz.ntmps47
    go_wp2_with (go_at_call 60; with_reducible refine (HC.out _).mono ?_; rintro e w1 ⟨rfl, rfl⟩)
    go_ret2
    exact ⟨by rw [HV.out]; rfl, rfl⟩
end Go.Proofs.YtjbhfkcjmjhhdaaGreatDoor

namespace Go.Proofs.YtjbhfkcjmjhhdaaGreatDoor
open Go.RowKit

theorem head_get (c : UInt8) : ∀ s : BT, hasB c s = true → s[(headB c s).length]? = some c ∧ ∀ j, j < (headB c s).length → s[j]? ≠ some c
  | [], h => by cases h
  | b :: t, h => by
    by_cases hb : b = c
    · subst hb
      have : headB b (b :: t) = [] := by unfold headB; simp
      rw [this]
      exact ⟨rfl, fun j hj => by simp at hj⟩
    · have e : headB c (b :: t) = b :: headB c t := List.takeWhile_cons_of_pos (by simpa using hb)
      have ht : hasB c t = true := by
        unfold hasB at h ⊢
        rw [List.any_cons, show (b == c) = false by simpa using hb, Bool.false_or] at h
        exact h
      obtain ⟨h1, h2⟩ := head_get c t ht
      rw [e]
      refine ⟨h1, fun j hj => ?_⟩
      cases j with
      | zero => intro h3; injection h3 with h3; exact hb h3
      | succ j => exact h2 j (by simpa using hj)
theorem get_some (s : ByteArray) (i : Nat) (h : i < s.size) : s.data.toList[i]? = some s[i] := by
  rw [List.getElem?_eq_getElem (by rw [bytes_len]; exact h)]; rfl
set_option maxHeartbeats 1000000 in
theorem rlpercent_any (s : ByteArray) (w : World) (hs : s.size ≤ 9223372036854775807) :
    Calls Tryz.prog 14 #[.string s] w fun e w' => e = .returned (.tuple #[.int .i64 (pctT s.data.toList).1, .int .i64 (pctT s.data.toList).2]) ∧ Below w.heap.size w w' := by
  by_cases hf : s.data.toList = fullT
  · have g1 := is_full s
    rw [decide_eq_true hf] at g1
    have HV := Lib.hid (show pctT s.data.toList = (65535, 0) by unfold pctT; rw [if_pos hf])
    clear hf
    go_enter Tryz.func14, Tryz.ntmps14
    go_wp2
    go_ret2
    exact ⟨by rw [HV.out]; rfl, Below.refl _ _⟩
  have hr := restT_of s.data.toList
  cases hb : hasB 46 s.data.toList
  · rw [hb] at hr
    obtain ⟨h1, _⟩ := head_none hb
    refine rlpercent_none s w hs hf ?_ s ⟨#[48, 48, 48]⟩ rfl rfl ⟨h1.symm, hr.symm⟩
    intro j hj e
    unfold hasB at hb
    rw [List.any_eq_false] at hb
    have := hb s[j] (List.getElem_mem (l := s.data.toList) (n := j) (by rw [bytes_len]; exact hj))
    rw [e] at this
    exact this rfl
  · rw [hb] at hr
    obtain ⟨h1, h2, h3⟩ := head_some hb
    rw [bytes_len] at h3
    have hu : (s.extract 0 (headB 46 s.data.toList).length).data.toList = wholeT s.data.toList := by rw [take_bytes0, ← h1]; rfl
    have hd : (s.extract ((headB 46 s.data.toList).length + 1) s.size).data.toList = restT s.data.toList := by rw [drop_bytes0, ← h2]; exact hr.symm
    refine rlpercent_dot s w hs hf (headB 46 s.data.toList).length (by omega) ?_ ?_ _ _ rfl rfl ⟨hu, hd⟩ ?_ ?_
    · have := (head_get 46 _ hb).1
      rw [get_some s _ (by omega)] at this
      injection this
    · intro j hj hlt e
      have := (head_get 46 _ hb).2 j hlt
      rw [get_some s j hj, e] at this
      exact this rfl
    · rw [← bytes_len, hu, ← bytes_len s]
      exact (List.takeWhile_prefix _).length_le
    · rw [← bytes_len, drop_bytes0, List.length_drop, bytes_len]; omega
theorem mult_of {x U : Int} (h : x % U = 0) : x = x / U * U := by have := Int.mul_ediv_add_emod x U; rw [h, Int.mul_comm] at this; omega

theorem named_0 {v : Int} (h0 : 0 ≤ v) (h1 : v ≤ 65534) (hh : hasD v 0 = true) (hd : decsOf v = 0) :
    ∃ n : Int, 0 ≤ n ∧ n ≤ 100000 ∧ n % 1000 = 0 ∧ ofN n = v ∧ (∀ x : Int, 0 ≤ x → x < n → x % 1000 = 0 → ofN x ≠ v) ∧
    namedT v = Lib.itoa (n / 1000) ++ [] := by
  obtain ⟨k0, k1, k2, k3⟩ := kOf_spec 0 h0 (by omega : v ≤ 65535)
  have e1 : unitD 0 = 1000 := rfl
  have e2 : partD 0 = 1 := rfl
  unfold hasD at hh
  rw [decide_eq_true_eq] at hh
  have hn : namedT v = textD (kOf v (unitD 0)) 0 := by unfold namedT; rw [if_neg (by omega), hd]
  rw [e1] at k0 k1 k2 k3 hh hn
  generalize kOf v 1000 = k at *
  refine ⟨k * 1000, by omega, k1, by omega, hh, ?_, ?_⟩
  · intro x x0 x1 x2 e
    have hx := mult_of x2
    have := k3 (x / 1000) (by omega) (by omega)
    rw [← hx] at this
    omega
  · rw [hn]
    unfold textD
    rw [e2, show k * 1000 / 1000 = k / 1 by omega]
    rw [if_pos rfl]

theorem named_1 {v : Int} (h0 : 0 ≤ v) (h1 : v ≤ 65534) (hh : hasD v 1 = true) (hd : decsOf v = 1) :
    ∃ n : Int, 0 ≤ n ∧ n ≤ 100000 ∧ n % 100 = 0 ∧ ofN n = v ∧ (∀ x : Int, 0 ≤ x → x < n → x % 100 = 0 → ofN x ≠ v) ∧
    namedT v = Lib.itoa (n / 1000) ++ 46 :: ((Lib.itoa (1000 + n % 1000)).drop 1).take 1 := by
  obtain ⟨k0, k1, k2, k3⟩ := kOf_spec 1 h0 (by omega : v ≤ 65535)
  have e1 : unitD 1 = 100 := rfl
  have e2 : partD 1 = 10 := rfl
  unfold hasD at hh
  rw [decide_eq_true_eq] at hh
  have hn : namedT v = textD (kOf v (unitD 1)) 1 := by unfold namedT; rw [if_neg (by omega), hd]
  rw [e1] at k0 k1 k2 k3 hh hn
  generalize kOf v 100 = k at *
  refine ⟨k * 100, by omega, k1, by omega, hh, ?_, ?_⟩
  · intro x x0 x1 x2 e
    have hx := mult_of x2
    have := k3 (x / 100) (by omega) (by omega)
    rw [← hx] at this
    omega
  · rw [hn]
    unfold textD
    rw [e2, show k * 100 / 1000 = k / 10 by omega]
    rw [if_neg (by decide), show k * 100 % 1000 = k % 10 * 100 by omega]
    have := rest_text (d := 1) (r := k % 10) (by omega) (by omega) (by omega) (by rw [e2]; omega)
    rw [e1] at this
    rw [this]

theorem named_2 {v : Int} (h0 : 0 ≤ v) (h1 : v ≤ 65534) (hh : hasD v 2 = true) (hd : decsOf v = 2) :
    ∃ n : Int, 0 ≤ n ∧ n ≤ 100000 ∧ n % 10 = 0 ∧ ofN n = v ∧ (∀ x : Int, 0 ≤ x → x < n → x % 10 = 0 → ofN x ≠ v) ∧
    namedT v = Lib.itoa (n / 1000) ++ 46 :: ((Lib.itoa (1000 + n % 1000)).drop 1).take 2 := by
  obtain ⟨k0, k1, k2, k3⟩ := kOf_spec 2 h0 (by omega : v ≤ 65535)
  have e1 : unitD 2 = 10 := rfl
  have e2 : partD 2 = 100 := rfl
  unfold hasD at hh
  rw [decide_eq_true_eq] at hh
  have hn : namedT v = textD (kOf v (unitD 2)) 2 := by unfold namedT; rw [if_neg (by omega), hd]
  rw [e1] at k0 k1 k2 k3 hh hn
  generalize kOf v 10 = k at *
  refine ⟨k * 10, by omega, k1, by omega, hh, ?_, ?_⟩
  · intro x x0 x1 x2 e
    have hx := mult_of x2
    have := k3 (x / 10) (by omega) (by omega)
    rw [← hx] at this
    omega
  · rw [hn]
    unfold textD
    rw [e2, show k * 10 / 1000 = k / 100 by omega]
    rw [if_neg (by decide), show k * 10 % 1000 = k % 100 * 10 by omega]
    have := rest_text (d := 2) (r := k % 100) (by omega) (by omega) (by omega) (by rw [e2]; omega)
    rw [e1] at this
    rw [this]

theorem named_3 {v : Int} (h0 : 0 ≤ v) (h1 : v ≤ 65534) (hh : hasD v 3 = true) (hd : decsOf v = 3) :
    ∃ n : Int, 0 ≤ n ∧ n ≤ 100000 ∧ n % 1 = 0 ∧ ofN n = v ∧ (∀ x : Int, 0 ≤ x → x < n → x % 1 = 0 → ofN x ≠ v) ∧
    namedT v = Lib.itoa (n / 1000) ++ 46 :: ((Lib.itoa (1000 + n % 1000)).drop 1).take 3 := by
  obtain ⟨k0, k1, k2, k3⟩ := kOf_spec 3 h0 (by omega : v ≤ 65535)
  have e1 : unitD 3 = 1 := rfl
  have e2 : partD 3 = 1000 := rfl
  unfold hasD at hh
  rw [decide_eq_true_eq] at hh
  have hn : namedT v = textD (kOf v (unitD 3)) 3 := by unfold namedT; rw [if_neg (by omega), hd]
  rw [e1] at k0 k1 k2 k3 hh hn
  generalize kOf v 1 = k at *
  refine ⟨k * 1, by omega, k1, by omega, hh, ?_, ?_⟩
  · intro x x0 x1 x2 e
    have hx := mult_of x2
    have := k3 (x / 1) (by omega) (by omega)
    rw [← hx] at this
    omega
  · rw [hn]
    unfold textD
    rw [e2, show k * 1 / 1000 = k / 1000 by omega]
    rw [if_neg (by decide), show k * 1 % 1000 = k % 1000 * 1 by omega]
    have := rest_text (d := 3) (r := k % 1000) (by omega) (by omega) (by omega) (by rw [e2]; omega)
    rw [e1] at this
    rw [this]
end Go.Proofs.YtjbhfkcjmjhhdaaGreatDoor

namespace Go.Proofs.YtjbhfkcjmjhhdaaGreatDoor
open Go.RowKit

theorem decs_eq {v : Int} (d : Nat) (h : hasD v d = true) (hl : ∀ e, e < d → hasD v e = false) (hd : d ≤ 3) : decsOf v = d := by
  rcases Nat.lt_trichotomy (decsOf v) d with h1 | h1 | h1
  · exfalso
    have := hl _ h1
    unfold decsOf at this h1
    split at h1
    · rename_i h2; rw [if_pos h2] at this; rw [h2] at this; cases this
    split at h1
    · rename_i h3 h2; rw [if_neg h3, if_pos h2] at this; rw [h2] at this; cases this
    split at h1
    · rename_i h4 h3 h2; rw [if_neg h4, if_neg h3, if_pos h2] at this; rw [h2] at this; cases this
    · omega
  · exact h1
  · rw [decs_less h1] at h; cases h
theorem not_mult {v : Int} {d : Nat} (h0 : 0 ≤ v) (h1 : v ≤ 65535) (h : hasD v d = false) {x : Int} (hx : x % unitD d = 0) : ofN x ≠ v := by
  have := has_no h0 h1 h (x / unitD d)
  rw [← mult_of hx] at this
  exact this
set_option maxRecDepth 100000 in
set_option maxHeartbeats 8000000 in
theorem rlnamed_any (v : Int) (w : World) (h0 : 0 ≤ v) (h1 : v ≤ 65535) :
    Calls Tryz.prog 61 #[.int .i64 v] w fun e w' => e = .returned (.string ⟨(namedT v).toArray⟩) ∧ Below w.heap.size w w' := by
  by_cases hv : v = 65535
  · subst hv
    have HV := Lib.hid (show (⟨#[102, 117, 108, 108]⟩ : ByteArray) = ⟨(namedT 65535).toArray⟩ by rfl)
    clear h0 h1
    go_enter Tryz.func61, Tryz.ntmps61
    go_wp2
    go_ret
    exact ⟨by rw [← HV.out]; rfl, Below.refl _ _⟩
  have g1 : (v == 65535) = false := by simpa using hv
  have hlast := has_last h0 (by omega)
  have HB := Lib.hid (show 0 ≤ v ∧ v ≤ 65534 by omega)
  have HL := Lib.hid hlast
  clear hv hlast h0 h1
  go_enter Tryz.func61, Tryz.ntmps61
  go_wp2
  go_loopw [3, 4] (fun uv dv wr => AtT v uv dv ∧ Below w.heap.size w wr) (fun _ dv _ => 4 - (intOf dv).toNat)
  case atStart => exact ⟨.inl ⟨rfl, rfl⟩, Below.refl _ _⟩
  case round =>
    obtain ⟨hat, hB⟩ := hrel
    obtain ⟨wo, rfl⟩ : ∃ wo : World, wo = wr := ⟨_, rfl⟩
    have HBo := Lib.hid hB
    clear hB
    unfold AtT at hat
    rcases hat with ⟨rfl, rfl⟩ | ⟨rfl, rfl, a0⟩ | ⟨rfl, rfl, a0, a1⟩ | ⟨rfl, rfl, a0, a1, a2⟩
    · cases hd : hasD v 0
      · have hno := fun {x : Int} (hx : x % 1000 = 0) => not_mult (v := v) (d := 0) (x := x) HB.out.1 (by have := HB.out.2; omega) hd hx
        have HNo := Lib.hid (fun x (hx : x % 1000 = 0) => hno hx)
        have HD := Lib.hid hd
        clear hd hno
        go_wp2
        go_loopw [5] (fun nv wr => ∃ x : Int, nv = .int .i64 x ∧ 0 ≤ x ∧ x ≤ 101000 ∧ x % 1000 = 0 ∧ Below w.heap.size w wr) (fun nv _ => (101000 - intOf nv).toNat)
        case atStart => exact ⟨0, rfl, by omega, by omega, by omega, HBo.out⟩
        case round =>
          obtain ⟨x, rfl, x0, x1, x2, hB⟩ := hrel
          have HX2 := Lib.hid x2
          by_cases hle : x ≤ 100000
          · have HO := Lib.hid (fun w => rlof_any x w x0 (by omega))
            have g2 : (ofN x == v) = false := by have := HNo.out x x2; simpa using this
            have g3 : (ofN x != v) = true := by rw [bne, g2]; rfl
            generalize ofN x = y at *
            clear x2
            go_wp2_with (go_at_call 58; with_reducible refine (HO.out _).mono ?_; rintro e w1 ⟨rfl, rfl⟩)
            go_roundw
            case rel => exact ⟨x + 1000, rfl, by omega, by have := HX2.out; omega, by have := HX2.out; omega, hB⟩
            case measure => simp [intOf]; omega
          · clear x2
            go_wp2
            go_roundw
            case rel => exact ⟨.inr (.inl ⟨by go_num, by go_num, HD.out⟩), hB⟩
            case measure => first | (simp [intOf]; omega) | simp [intOf]
      · obtain ⟨n, n0, n1, n2, n3, n4, n5⟩ := named_0 HB.out.1 HB.out.2 hd (decs_eq 0 hd (fun e he => by omega) (by omega))
        have HW := Lib.hid (fun w => rwhole_s (x := n / 1000) (by omega) (by omega) w)
        have HN3 := Lib.hid n3
        have HN4 := Lib.hid n4
        have HV := Lib.hid (show sI (n / 1000) = ⟨(namedT v).toArray⟩ by rw [n5, List.append_nil]; rfl)
        clear n3 n4 n5 hd
        go_wp2
        go_loopw [5] (fun nv wr => ∃ x : Int, nv = .int .i64 x ∧ 0 ≤ x ∧ x ≤ n ∧ x % 1000 = 0 ∧ Below w.heap.size w wr) (fun nv _ => (n - intOf nv).toNat)
        case atStart => exact ⟨0, rfl, by omega, n0, by omega, HBo.out⟩
        case round =>
          obtain ⟨x, rfl, x0, x1, x2, hB⟩ := hrel
          have HO := Lib.hid (fun w => rlof_any x w x0 (by omega))
          by_cases hlt : x < n
          · have g2 : (ofN x == v) = false := by have := HN4.out x x0 hlt x2; simpa using this
            have g3 : (ofN x != v) = true := by rw [bne, g2]; rfl
            have x3 : x ≤ 100000 := by omega
            have HX2 := Lib.hid x2
            generalize ofN x = y at *
            clear x2
            go_wp2_with (go_at_call 58; with_reducible refine (HO.out _).mono ?_; rintro e w1 ⟨rfl, rfl⟩)
            go_roundw
            case rel => exact ⟨x + 1000, rfl, by omega, by have := HX2.out; omega, by have := HX2.out; omega, hB⟩
            case measure => simp [intOf]; omega
          · obtain rfl : x = n := by omega
            have HO2 := Lib.hid (fun w => (show Calls Tryz.prog 58 #[.int .i64 x] w fun e w' => e = .returned (.int .i64 v) ∧ w = w' by have := HO.out w; rw [HN3.out] at this; exact this))
            clear HO x2 n2
            go_wp2_with (first | (go_at_call 58; with_reducible refine (HO2.out _).mono ?_; rintro e w1 ⟨rfl, rfl⟩) | (go_at_call 53; with_reducible refine (HW.out _).mono ?_; rintro e wk ⟨rfl, hb⟩; replace hB := hB.trans (hb.mono hB.size); clear hb))
            go_ret
            exact ⟨by rw [← HV.out]; rfl, hB⟩
    · have HA0 := Lib.hid a0
      clear a0
      cases hd : hasD v 1
      · have hno := fun {x : Int} (hx : x % 100 = 0) => not_mult (v := v) (d := 1) (x := x) HB.out.1 (by have := HB.out.2; omega) hd hx
        have HNo := Lib.hid (fun x (hx : x % 100 = 0) => hno hx)
        have HD := Lib.hid hd
        clear hd hno
        go_wp2
        go_loopw [5] (fun nv wr => ∃ x : Int, nv = .int .i64 x ∧ 0 ≤ x ∧ x ≤ 100100 ∧ x % 100 = 0 ∧ Below w.heap.size w wr) (fun nv _ => (100100 - intOf nv).toNat)
        case atStart => exact ⟨0, rfl, by omega, by omega, by omega, HBo.out⟩
        case round =>
          obtain ⟨x, rfl, x0, x1, x2, hB⟩ := hrel
          have HX2 := Lib.hid x2
          by_cases hle : x ≤ 100000
          · have HO := Lib.hid (fun w => rlof_any x w x0 (by omega))
            have g2 : (ofN x == v) = false := by have := HNo.out x x2; simpa using this
            have g3 : (ofN x != v) = true := by rw [bne, g2]; rfl
            generalize ofN x = y at *
            clear x2
            go_wp2_with (go_at_call 58; with_reducible refine (HO.out _).mono ?_; rintro e w1 ⟨rfl, rfl⟩)
            go_roundw
            case rel => exact ⟨x + 100, rfl, by omega, by have := HX2.out; omega, by have := HX2.out; omega, hB⟩
            case measure => simp [intOf]; omega
          · clear x2
            go_wp2
            go_roundw
            case rel => exact ⟨.inr (.inr (.inl ⟨by go_num, by go_num, HA0.out, HD.out⟩)), hB⟩
            case measure => first | (simp [intOf]; omega) | simp [intOf]
      · obtain ⟨n, n0, n1, n2, n3, n4, n5⟩ := named_1 HB.out.1 HB.out.2 hd (decs_eq 1 hd (fun e he => by
            obtain rfl : e = 0 := by omega
            exact HA0.out) (by omega))
        have HW := Lib.hid (fun w => rwhole_s (x := n / 1000) (by omega) (by omega) w)
        have HN3 := Lib.hid n3
        have HN4 := Lib.hid n4
        have HX := Lib.hid (fun w => rwhole_s (x := 1000 + n % 1000) (by omega) (by omega) w)
        have l4 : 4 ≤ (sI (1000 + n % 1000)).size := by
          rw [← bytes_len, sI_list, itoa_pos' (by omega)]
          have : ¬ (Lib.decDigits (1000 + n % 1000).natAbs).length ≤ 3 := by rw [dec_len_iff (k := 3) (by omega)]; omega
          omega
        have l5 : (sI (n / 1000)).size ≤ 10 := Nat.le_trans (sI_len (k := 4) (by omega) (by omega)) (by omega)
        have HV := Lib.hid (show sI (n / 1000) ++ (⟨#[46]⟩ ++ (sI (1000 + n % 1000)).extract 1 2) = ⟨(namedT v).toArray⟩ by
          refine ByteArray.ext (Array.ext' ?_)
          rw [ByteArray.data_append, Array.toList_append, ByteArray.data_append, Array.toList_append, ByteArray.data_extract, Array.toList_extract, List.extract_eq_take_drop]
          show Lib.itoa (n / 1000) ++ ([46] ++ ((Lib.itoa (1000 + n % 1000)).drop 1).take (2 - 1)) = namedT v
          rw [n5]; rfl)
        generalize sI (1000 + n % 1000) = S at *
        generalize sI (n / 1000) = Q at *
        clear n3 n4 n5 hd
        go_wp2
        go_loopw [5] (fun nv wr => ∃ x : Int, nv = .int .i64 x ∧ 0 ≤ x ∧ x ≤ n ∧ x % 100 = 0 ∧ Below w.heap.size w wr) (fun nv _ => (n - intOf nv).toNat)
        case atStart => exact ⟨0, rfl, by omega, n0, by omega, HBo.out⟩
        case round =>
          obtain ⟨x, rfl, x0, x1, x2, hB⟩ := hrel
          have HO := Lib.hid (fun w => rlof_any x w x0 (by omega))
          by_cases hlt : x < n
          · have g2 : (ofN x == v) = false := by have := HN4.out x x0 hlt x2; simpa using this
            have g3 : (ofN x != v) = true := by rw [bne, g2]; rfl
            have x3 : x ≤ 100000 := by omega
            have HX2 := Lib.hid x2
            generalize ofN x = y at *
            clear x2
            go_wp2_with (go_at_call 58; with_reducible refine (HO.out _).mono ?_; rintro e w1 ⟨rfl, rfl⟩)
            go_roundw
            case rel => exact ⟨x + 100, rfl, by omega, by have := HX2.out; omega, by have := HX2.out; omega, hB⟩
            case measure => simp [intOf]; omega
          · obtain rfl : x = n := by omega
            have HO2 := Lib.hid (fun w => (show Calls Tryz.prog 58 #[.int .i64 x] w fun e w' => e = .returned (.int .i64 v) ∧ w = w' by have := HO.out w; rw [HN3.out] at this; exact this))
            clear HO x2 n2
            go_wp2_with (first | (go_at_call 58; with_reducible refine (HO2.out _).mono ?_; rintro e w1 ⟨rfl, rfl⟩) | (go_at_call 53; with_reducible refine (HW.out _).mono ?_; rintro e wk ⟨rfl, hb⟩; replace hB := hB.trans (hb.mono hB.size); clear hb) | (go_at_call 53; with_reducible refine (HX.out _).mono ?_; rintro e wk ⟨rfl, hb⟩; replace hB := hB.trans (hb.mono hB.size); clear hb))
            go_ret
            exact ⟨by rw [← HV.out]; rfl, hB⟩
    · have HA0 := Lib.hid a0
      have HA1 := Lib.hid a1
      clear a0 a1
      cases hd : hasD v 2
      · have hno := fun {x : Int} (hx : x % 10 = 0) => not_mult (v := v) (d := 2) (x := x) HB.out.1 (by have := HB.out.2; omega) hd hx
        have HNo := Lib.hid (fun x (hx : x % 10 = 0) => hno hx)
        have HD := Lib.hid hd
        clear hd hno
        go_wp2
        go_loopw [5] (fun nv wr => ∃ x : Int, nv = .int .i64 x ∧ 0 ≤ x ∧ x ≤ 100010 ∧ x % 10 = 0 ∧ Below w.heap.size w wr) (fun nv _ => (100010 - intOf nv).toNat)
        case atStart => exact ⟨0, rfl, by omega, by omega, by omega, HBo.out⟩
        case round =>
          obtain ⟨x, rfl, x0, x1, x2, hB⟩ := hrel
          have HX2 := Lib.hid x2
          by_cases hle : x ≤ 100000
          · have HO := Lib.hid (fun w => rlof_any x w x0 (by omega))
            have g2 : (ofN x == v) = false := by have := HNo.out x x2; simpa using this
            have g3 : (ofN x != v) = true := by rw [bne, g2]; rfl
            generalize ofN x = y at *
            clear x2
            go_wp2_with (go_at_call 58; with_reducible refine (HO.out _).mono ?_; rintro e w1 ⟨rfl, rfl⟩)
            go_roundw
            case rel => exact ⟨x + 10, rfl, by omega, by have := HX2.out; omega, by have := HX2.out; omega, hB⟩
            case measure => simp [intOf]; omega
          · clear x2
            go_wp2
            go_roundw
            case rel => exact ⟨.inr (.inr (.inr ⟨by go_num, by go_num, HA0.out, HA1.out, HD.out⟩)), hB⟩
            case measure => first | (simp [intOf]; omega) | simp [intOf]
      · obtain ⟨n, n0, n1, n2, n3, n4, n5⟩ := named_2 HB.out.1 HB.out.2 hd (decs_eq 2 hd (fun e he => by
            obtain rfl | rfl : e = 0 ∨ e = 1 := by omega
            · exact HA0.out
            · exact HA1.out) (by omega))
        have HW := Lib.hid (fun w => rwhole_s (x := n / 1000) (by omega) (by omega) w)
        have HN3 := Lib.hid n3
        have HN4 := Lib.hid n4
        have HX := Lib.hid (fun w => rwhole_s (x := 1000 + n % 1000) (by omega) (by omega) w)
        have l4 : 4 ≤ (sI (1000 + n % 1000)).size := by
          rw [← bytes_len, sI_list, itoa_pos' (by omega)]
          have : ¬ (Lib.decDigits (1000 + n % 1000).natAbs).length ≤ 3 := by rw [dec_len_iff (k := 3) (by omega)]; omega
          omega
        have l5 : (sI (n / 1000)).size ≤ 10 := Nat.le_trans (sI_len (k := 4) (by omega) (by omega)) (by omega)
        have HV := Lib.hid (show sI (n / 1000) ++ (⟨#[46]⟩ ++ (sI (1000 + n % 1000)).extract 1 3) = ⟨(namedT v).toArray⟩ by
          refine ByteArray.ext (Array.ext' ?_)
          rw [ByteArray.data_append, Array.toList_append, ByteArray.data_append, Array.toList_append, ByteArray.data_extract, Array.toList_extract, List.extract_eq_take_drop]
          show Lib.itoa (n / 1000) ++ ([46] ++ ((Lib.itoa (1000 + n % 1000)).drop 1).take (3 - 1)) = namedT v
          rw [n5]; rfl)
        generalize sI (1000 + n % 1000) = S at *
        generalize sI (n / 1000) = Q at *
        clear n3 n4 n5 hd
        go_wp2
        go_loopw [5] (fun nv wr => ∃ x : Int, nv = .int .i64 x ∧ 0 ≤ x ∧ x ≤ n ∧ x % 10 = 0 ∧ Below w.heap.size w wr) (fun nv _ => (n - intOf nv).toNat)
        case atStart => exact ⟨0, rfl, by omega, n0, by omega, HBo.out⟩
        case round =>
          obtain ⟨x, rfl, x0, x1, x2, hB⟩ := hrel
          have HO := Lib.hid (fun w => rlof_any x w x0 (by omega))
          by_cases hlt : x < n
          · have g2 : (ofN x == v) = false := by have := HN4.out x x0 hlt x2; simpa using this
            have g3 : (ofN x != v) = true := by rw [bne, g2]; rfl
            have x3 : x ≤ 100000 := by omega
            have HX2 := Lib.hid x2
            generalize ofN x = y at *
            clear x2
            go_wp2_with (go_at_call 58; with_reducible refine (HO.out _).mono ?_; rintro e w1 ⟨rfl, rfl⟩)
            go_roundw
            case rel => exact ⟨x + 10, rfl, by omega, by have := HX2.out; omega, by have := HX2.out; omega, hB⟩
            case measure => simp [intOf]; omega
          · obtain rfl : x = n := by omega
            have HO2 := Lib.hid (fun w => (show Calls Tryz.prog 58 #[.int .i64 x] w fun e w' => e = .returned (.int .i64 v) ∧ w = w' by have := HO.out w; rw [HN3.out] at this; exact this))
            clear HO x2 n2
            go_wp2_with (first | (go_at_call 58; with_reducible refine (HO2.out _).mono ?_; rintro e w1 ⟨rfl, rfl⟩) | (go_at_call 53; with_reducible refine (HW.out _).mono ?_; rintro e wk ⟨rfl, hb⟩; replace hB := hB.trans (hb.mono hB.size); clear hb) | (go_at_call 53; with_reducible refine (HX.out _).mono ?_; rintro e wk ⟨rfl, hb⟩; replace hB := hB.trans (hb.mono hB.size); clear hb))
            go_ret
            exact ⟨by rw [← HV.out]; rfl, hB⟩
    · have HA0 := Lib.hid a0
      have HA1 := Lib.hid a1
      have HA2 := Lib.hid a2
      clear a0 a1 a2
      have hd := HL.out
      obtain ⟨n, n0, n1, n2, n3, n4, n5⟩ := named_3 HB.out.1 HB.out.2 hd (decs_eq 3 hd (fun e he => by
          obtain rfl | rfl | rfl : e = 0 ∨ e = 1 ∨ e = 2 := by omega
          · exact HA0.out
          · exact HA1.out
          · exact HA2.out) (by omega))
      have HW := Lib.hid (fun w => rwhole_s (x := n / 1000) (by omega) (by omega) w)
      have HN3 := Lib.hid n3
      have HN4 := Lib.hid n4
      have HX := Lib.hid (fun w => rwhole_s (x := 1000 + n % 1000) (by omega) (by omega) w)
      have l4 : 4 ≤ (sI (1000 + n % 1000)).size := by
        rw [← bytes_len, sI_list, itoa_pos' (by omega)]
        have : ¬ (Lib.decDigits (1000 + n % 1000).natAbs).length ≤ 3 := by rw [dec_len_iff (k := 3) (by omega)]; omega
        omega
      have l5 : (sI (n / 1000)).size ≤ 10 := Nat.le_trans (sI_len (k := 4) (by omega) (by omega)) (by omega)
      have HV := Lib.hid (show sI (n / 1000) ++ (⟨#[46]⟩ ++ (sI (1000 + n % 1000)).extract 1 4) = ⟨(namedT v).toArray⟩ by
        refine ByteArray.ext (Array.ext' ?_)
        rw [ByteArray.data_append, Array.toList_append, ByteArray.data_append, Array.toList_append, ByteArray.data_extract, Array.toList_extract, List.extract_eq_take_drop]
        show Lib.itoa (n / 1000) ++ ([46] ++ ((Lib.itoa (1000 + n % 1000)).drop 1).take (4 - 1)) = namedT v
        rw [n5]; rfl)
      generalize sI (1000 + n % 1000) = S at *
      generalize sI (n / 1000) = Q at *
      clear n3 n4 n5 hd
      go_wp2
      go_loopw [5] (fun nv wr => ∃ x : Int, nv = .int .i64 x ∧ 0 ≤ x ∧ x ≤ n ∧ x % 1 = 0 ∧ Below w.heap.size w wr) (fun nv _ => (n - intOf nv).toNat)
      case atStart => exact ⟨0, rfl, by omega, n0, by omega, HBo.out⟩
      case round =>
        obtain ⟨x, rfl, x0, x1, x2, hB⟩ := hrel
        have HO := Lib.hid (fun w => rlof_any x w x0 (by omega))
        by_cases hlt : x < n
        · have g2 : (ofN x == v) = false := by have := HN4.out x x0 hlt x2; simpa using this
          have g3 : (ofN x != v) = true := by rw [bne, g2]; rfl
          have x3 : x ≤ 100000 := by omega
          have HX2 := Lib.hid x2
          generalize ofN x = y at *
          clear x2
          go_wp2_with (go_at_call 58; with_reducible refine (HO.out _).mono ?_; rintro e w1 ⟨rfl, rfl⟩)
          go_roundw
          case rel => exact ⟨x + 1, rfl, by omega, by have := HX2.out; omega, by have := HX2.out; omega, hB⟩
          case measure => simp [intOf]; omega
        · obtain rfl : x = n := by omega
          have HO2 := Lib.hid (fun w => (show Calls Tryz.prog 58 #[.int .i64 x] w fun e w' => e = .returned (.int .i64 v) ∧ w = w' by have := HO.out w; rw [HN3.out] at this; exact this))
          clear HO x2 n2
          go_wp2_with (first | (go_at_call 58; with_reducible refine (HO2.out _).mono ?_; rintro e w1 ⟨rfl, rfl⟩) | (go_at_call 53; with_reducible refine (HW.out _).mono ?_; rintro e wk ⟨rfl, hb⟩; replace hB := hB.trans (hb.mono hB.size); clear hb) | (go_at_call 53; with_reducible refine (HX.out _).mono ?_; rintro e wk ⟨rfl, hb⟩; replace hB := hB.trans (hb.mono hB.size); clear hb))
          go_ret
          exact ⟨by rw [← HV.out]; rfl, hB⟩
theorem rltext_any (v : Int) (w : World) :
    Calls Tryz.prog 17 #[.int .i64 v] w fun e w' => e = .returned (.tuple #[.string ⟨(if 0 ≤ v ∧ v ≤ 65535 then namedT v else []).toArray⟩, .int .i64 (if 0 ≤ v ∧ v ≤ 65535 then 0 else 2)]) ∧ Below w.heap.size w w' := by
  have hB := Below.refl w.heap.size w
  have hI := fun w => rlis_any v w
  by_cases h : 0 ≤ v ∧ v ≤ 65535
  · rw [if_pos h, if_pos h]
    simp only [decide_eq_true h] at hI
    have HI := Lib.hid hI
    have HN := Lib.hid (fun w => rlnamed_any v w h.1 h.2)
    generalize namedT v = T at *
    clear hI h
    go_enter Tryz.func17, Tryz.ntmps17
    go_wp2_with (first | (go_at_call 60; refine (HI.out _).mono ?_; rintro e w1 ⟨rfl, rfl⟩) | (go_at_call 61; with_reducible refine (HN.out _).mono ?_; rintro e wk ⟨rfl, hb⟩; replace hB := hB.trans (hb.mono hB.size); clear hb))
    go_ret2
    exact ⟨rfl, hB⟩
  · rw [if_neg h, if_neg h]
    simp only [decide_eq_false h] at hI
    have HI := Lib.hid hI
    clear hI h
    go_enter Tryz.func17, Tryz.ntmps17
    go_wp2_with (go_at_call 60; refine (HI.out _).mono ?_; rintro e w1 ⟨rfl, rfl⟩)
    go_ret2
    exact ⟨rfl, hB⟩
end Go.Proofs.YtjbhfkcjmjhhdaaGreatDoor

namespace Go.Proofs.YtjbhfkcjmjhhdaaGreatDoor
open Go.RowKit

theorem int_floor (z : Int) : ((z : Rat)).floor = z := floor_unique Rat.le_refl (by
  have : (0 : Rat) < 1 := by decide
  grind)
theorem int_near (z : Int) : ((z : Rat) + halfR).floor = z := by
  rcases near_cases (z : Rat) with ⟨e, _⟩ | ⟨_, h⟩
  · rw [e, int_floor]
  · exfalso
    rw [int_floor] at h
    grind
theorem inL_int {z : Int} (h0 : 0 ≤ z) (h1 : z ≤ 65535) : InL (z : Rat) := ⟨cast_le.2 h0, cast_le.2 h1⟩
theorem chkR_itoa {z : Int} (h : Fit z) : chkR (Lib.itoa z) = 0 ∧ valR (Lib.itoa z) = (z : Rat) := by
  have e : Lib.itoa z = rT (z : Rat) := by unfold rT; rw [Rat.den_intCast, if_pos rfl, Rat.num_intCast]
  rw [e]
  refine ⟨chkR_fit ⟨by rw [Rat.num_intCast]; exact h, by rw [Rat.den_intCast]; exact fit_lt (k := 1) (by decide) (by decide)⟩, valR_rT _⟩
theorem errLv_int {z : Int} (h0 : 0 ≤ z) (h1 : z ≤ 65535) : errLv (Lib.itoa z) = 0 ∧ valR (Lib.itoa z) = (z : Rat) := by
  obtain ⟨a, b⟩ := chkR_itoa (z := z) (fit_int (by omega) (by omega))
  refine ⟨?_, b⟩
  unfold errLv
  rw [a, if_neg (by decide), b, if_pos (inL_int h0 h1)]
theorem eight_int {z : Int} (h0 : 0 ≤ z) (h1 : z ≤ 65535) : eightT (Lib.itoa z) = ((2 * z + 257) / 514, 0) := by
  obtain ⟨a, b⟩ := errLv_int h0 h1
  unfold eightT
  rw [a, if_neg (by decide), b, eight_floor, int_floor, int_near, show z + z + 257 = 2 * z + 257 by omega]
theorem sixteen_int {z : Int} (h0 : 0 ≤ z) (h1 : z ≤ 65535) : sixteenT (Lib.itoa z) = (z, 0) := by
  obtain ⟨a, b⟩ := errLv_int h0 h1
  unfold sixteenT
  rw [a, if_neg (by decide), b, int_near]
theorem dig_one (z : Int) (h0 : 0 ≤ z) (h1 : z < 10) : Lib.itoa z = [dg1 z.natAbs] := by rw [itoa_pos' h0, dec_small (by omega)]
theorem dig_two (z : Int) (h0 : 10 ≤ z) (h1 : z < 100) : Lib.itoa z = [dg1 (z.natAbs / 10), dg1 (z.natAbs % 10)] := by rw [itoa_pos' (by omega), dec_big (by omega), dec_small (by omega)]; rfl
theorem dig_three (z : Int) (h0 : 100 ≤ z) (h1 : z < 1000) : Lib.itoa z = [dg1 (z.natAbs / 10 / 10), dg1 (z.natAbs / 10 % 10), dg1 (z.natAbs % 10)] := by rw [itoa_pos' (by omega), dec_big (by omega), dec_big (by omega), dec_small (by omega)]; rfl
theorem text_50 : namedT 32768 = [53, 48] := by
  have h : hasD 32768 0 = true := by decide
  have e : decsOf 32768 = 0 := by unfold decsOf; rw [h]; rfl
  have k : kOf 32768 (unitD 0) / partD 0 = 50 := by decide
  unfold namedT textD
  rw [if_neg (by decide), e, k, dig_two 50 (by decide) (by decide)]
  rfl
theorem text_1 : namedT 1 = [48, 46, 48, 48, 49] := by
  have h0 : hasD 1 0 = false := by decide
  have h1 : hasD 1 1 = false := by decide
  have h2 : hasD 1 2 = false := by decide
  have e : decsOf 1 = 3 := by unfold decsOf; rw [h0, h1, h2]; rfl
  have k : kOf 1 (unitD 3) / partD 3 = 0 := by decide
  have k2 : kOf 1 (unitD 3) % partD 3 = 1 := by decide
  unfold namedT textD padD
  rw [if_neg (by decide), e, k, k2, dig_one 0 (by decide) (by decide), dig_one 1 (by decide) (by decide)]
  rfl
theorem text_99 : namedT 65534 = [57, 57, 46, 57, 57, 56] := by
  have h0 : hasD 65534 0 = false := by decide
  have h1 : hasD 65534 1 = false := by decide
  have h2 : hasD 65534 2 = false := by decide
  have e : decsOf 65534 = 3 := by unfold decsOf; rw [h0, h1, h2]; rfl
  have k : kOf 65534 (unitD 3) / partD 3 = 99 := by decide
  have k2 : kOf 65534 (unitD 3) % partD 3 = 998 := by decide
  unfold namedT textD padD
  rw [if_neg (by decide), e, k, k2, dig_two 99 (by decide) (by decide), dig_three 998 (by decide) (by decide)]
  rfl
theorem itoa_32768 : Lib.itoa 32768 = [51, 50, 55, 54, 56] := by
  rw [itoa_pos' (by decide), dec_big (by decide), dec_big (by decide), dec_big (by decide), dec_big (by decide), dec_small (by decide)]
  rfl
set_option maxRecDepth 100000 in
set_option maxHeartbeats 8000000 in
theorem vawake_any (w : World) (ht : Tab w) (hg : Rng w) : Calls Tryz.prog 15 #[] w fun e w' => e = .returned (.bool true) ∧ Below w.heap.size w w' := by
  have HT := Lib.hid ht
  have HRg := Lib.hid hg
  have HP0 := Lib.hid (fun w => (show Calls Tryz.prog 13 #[.string ⟨#[53, 48]⟩] w fun e w' => e = .returned (.tuple #[.int .i64 32768, .int .i64 0]) ∧ Below w.heap.size w w' by
    have := vpercent_any ⟨#[53, 48]⟩ w (by decide)
    rw [show pctT (⟨#[53, 48]⟩ : ByteArray).data.toList = (32768, 0) by decide] at this
    exact this))
  have HP1 := Lib.hid (fun w => (show Calls Tryz.prog 13 #[.string ⟨#[51, 55, 46, 53]⟩] w fun e w' => e = .returned (.tuple #[.int .i64 24576, .int .i64 0]) ∧ Below w.heap.size w w' by
    have := vpercent_any ⟨#[51, 55, 46, 53]⟩ w (by decide)
    rw [show pctT (⟨#[51, 55, 46, 53]⟩ : ByteArray).data.toList = (24576, 0) by decide] at this
    exact this))
  have HP2 := Lib.hid (fun w => (show Calls Tryz.prog 13 #[.string ⟨#[48, 46, 48, 48, 49]⟩] w fun e w' => e = .returned (.tuple #[.int .i64 1, .int .i64 0]) ∧ Below w.heap.size w w' by
    have := vpercent_any ⟨#[48, 46, 48, 48, 49]⟩ w (by decide)
    rw [show pctT (⟨#[48, 46, 48, 48, 49]⟩ : ByteArray).data.toList = (1, 0) by decide] at this
    exact this))
  have HP3 := Lib.hid (fun w => (show Calls Tryz.prog 13 #[.string ⟨#[102, 117, 108, 108]⟩] w fun e w' => e = .returned (.tuple #[.int .i64 65535, .int .i64 0]) ∧ Below w.heap.size w w' by
    have := vpercent_any ⟨#[102, 117, 108, 108]⟩ w (by decide)
    rw [show pctT (⟨#[102, 117, 108, 108]⟩ : ByteArray).data.toList = (65535, 0) by decide] at this
    exact this))
  have HP4 := Lib.hid (fun w => (show Calls Tryz.prog 13 #[.string ⟨#[49, 48, 48]⟩] w fun e w' => e = .returned (.tuple #[.int .i64 65535, .int .i64 0]) ∧ Below w.heap.size w w' by
    have := vpercent_any ⟨#[49, 48, 48]⟩ w (by decide)
    rw [show pctT (⟨#[49, 48, 48]⟩ : ByteArray).data.toList = (65535, 0) by decide] at this
    exact this))
  have HP5 := Lib.hid (fun w => (show Calls Tryz.prog 13 #[.string ⟨#[48]⟩] w fun e w' => e = .returned (.tuple #[.int .i64 0, .int .i64 0]) ∧ Below w.heap.size w w' by
    have := vpercent_any ⟨#[48]⟩ w (by decide)
    rw [show pctT (⟨#[48]⟩ : ByteArray).data.toList = (0, 0) by decide] at this
    exact this))
  have HX0 := Lib.hid (fun w ht => (show Calls Tryz.prog 16 #[.int .i64 32768] w fun e w' => e = .returned (.tuple #[.string ⟨#[53, 48]⟩, .int .i64 0]) ∧ Below w.heap.size w w' by
    have := vtext_ok 32768 w ht (by decide) (by decide)
    rw [text_50] at this
    exact this))
  have HX1 := Lib.hid (fun w ht => (show Calls Tryz.prog 16 #[.int .i64 1] w fun e w' => e = .returned (.tuple #[.string ⟨#[48, 46, 48, 48, 49]⟩, .int .i64 0]) ∧ Below w.heap.size w w' by
    have := vtext_ok 1 w ht (by decide) (by decide)
    rw [text_1] at this
    exact this))
  have HX2 := Lib.hid (fun w ht => (show Calls Tryz.prog 16 #[.int .i64 65534] w fun e w' => e = .returned (.tuple #[.string ⟨#[57, 57, 46, 57, 57, 56]⟩, .int .i64 0]) ∧ Below w.heap.size w w' by
    have := vtext_ok 65534 w ht (by decide) (by decide)
    rw [text_99] at this
    exact this))
  have HE := Lib.hid (fun w (hl : Tab w ∧ Rng w) => (show Calls Tryz.prog 21 #[.string ⟨#[51, 50, 55, 54, 56]⟩] w fun e w' => e = .returned (.tuple #[.int .i64 128, .int .i64 0]) ∧ Below w.heap.size w w' by
    have := veight_any ⟨#[51, 50, 55, 54, 56]⟩ w (by decide) hl.1 hl.2
    rw [show eightT (⟨#[51, 50, 55, 54, 56]⟩ : ByteArray).data.toList = (128, 0) by
      show eightT [51, 50, 55, 54, 56] = _
      rw [← itoa_32768, eight_int (by decide) (by decide)]; rfl] at this
    exact this))
  have HO := Lib.hid (fun w => (show Calls Tryz.prog 41 #[.int .i64 128, .int .i64 8] w fun e w' => e = .returned (.tuple #[.int .i64 32896, .int .i64 0]) ∧ Below w.heap.size w w' by
    have := vOf_any 128 8 w
    rw [show rawT 128 8 = (32896, 0) by decide] at this
    exact this))
  have HS := Lib.hid (fun w => (show Calls Tryz.prog 23 #[.int .i64 32768, .int .i64 32768] w fun e w' => e = .returned (.tuple #[.int .i64 16384, .int .i64 0]) ∧ w = w' by
    have := vscale_any 32768 32768 w
    rw [show scaleT 32768 32768 = (16384, 0) by decide] at this
    exact this))
  clear ht hg
  go_enter Tryz.func15, Tryz.ntmps15
  go_wp2
  generalize hW : w.alloc _ = W
  have hs : W.heap.size = w.heap.size + 1 := by rw [← hW]; simp
  have hBW : Below w.heap.size w W := by rw [← hW]; exact (Below.refl _ w).alloc (Nat.le_refl _) _
  have C0 := Lib.hid (show W.cell? ⟨w.heap.size, 0, none⟩ = some (.string ⟨#[53, 48]⟩) by rw [← hW, World.cell?_alloc_new]; rfl)
  have C1 := Lib.hid (show W.cell? ⟨w.heap.size, 1, none⟩ = some (.int .i64 32768) by rw [← hW, World.cell?_alloc_new]; rfl)
  have C2 := Lib.hid (show W.cell? ⟨w.heap.size, 2, none⟩ = some (.string ⟨#[51, 55, 46, 53]⟩) by rw [← hW, World.cell?_alloc_new]; rfl)
  have C3 := Lib.hid (show W.cell? ⟨w.heap.size, 3, none⟩ = some (.int .i64 24576) by rw [← hW, World.cell?_alloc_new]; rfl)
  have C4 := Lib.hid (show W.cell? ⟨w.heap.size, 4, none⟩ = some (.string ⟨#[48, 46, 48, 48, 49]⟩) by rw [← hW, World.cell?_alloc_new]; rfl)
  have C5 := Lib.hid (show W.cell? ⟨w.heap.size, 5, none⟩ = some (.int .i64 1) by rw [← hW, World.cell?_alloc_new]; rfl)
  have C6 := Lib.hid (show W.cell? ⟨w.heap.size, 6, none⟩ = some (.string ⟨#[102, 117, 108, 108]⟩) by rw [← hW, World.cell?_alloc_new]; rfl)
  have C7 := Lib.hid (show W.cell? ⟨w.heap.size, 7, none⟩ = some (.int .i64 65535) by rw [← hW, World.cell?_alloc_new]; rfl)
  have C8 := Lib.hid (show W.cell? ⟨w.heap.size, 8, none⟩ = some (.string ⟨#[49, 48, 48]⟩) by rw [← hW, World.cell?_alloc_new]; rfl)
  have C9 := Lib.hid (show W.cell? ⟨w.heap.size, 9, none⟩ = some (.int .i64 65535) by rw [← hW, World.cell?_alloc_new]; rfl)
  have C10 := Lib.hid (show W.cell? ⟨w.heap.size, 10, none⟩ = some (.string ⟨#[48]⟩) by rw [← hW, World.cell?_alloc_new]; rfl)
  have C11 := Lib.hid (show W.cell? ⟨w.heap.size, 11, none⟩ = some (.int .i64 0) by rw [← hW, World.cell?_alloc_new]; rfl)
  have HS0 := Lib.hid hs
  have HBW := Lib.hid hBW
  clear hW hs hBW
  go_loopw [25] (fun iv wr => (iv = .int .i64 0 ∨ iv = .int .i64 1 ∨ iv = .int .i64 2 ∨ iv = .int .i64 3 ∨ iv = .int .i64 4 ∨ iv = .int .i64 5 ∨ iv = .int .i64 6) ∧ Below W.heap.size W wr) (fun iv _ => 6 - (intOf iv).toNat)
  case atStart => exact ⟨.inl rfl, Below.refl _ _⟩
  case round =>
    obtain ⟨hiv, hbV⟩ := hrel
    have HbV := Lib.hid hbV
    have HCc := Lib.hid (bcell hbV).1
    have l0 : w.heap.size < W.heap.size := by rw [HS0.out]; omega
    have L0 := Lib.hid l0
    have HL := Lib.hid hbV.size
    clear hbV l0
    rcases hiv with rfl | rfl | rfl | rfl | rfl | rfl | rfl
    · have z0 := (HCc.out _ 0 L0.out).trans C0.out
      have z1 := (HCc.out _ 1 L0.out).trans C1.out
      go_wp2_with (go_at_call 13; refine (HP0.out _).mono ?_; rintro e wk ⟨rfl, hb⟩; obtain ⟨hcc, hcf⟩ := bcell hb; have HBk := Lib.hid hb; clear hb)
      go_roundw
      case rel => exact ⟨.inr (.inl (by go_num)), by
        have hb := HBk.out
        have := HL.out
        exact HbV.out.trans (((Below.refl W.heap.size wr).alloc (by omega) _).trans (hb.mono (by simp; omega)))⟩
      case measure => first | (simp [intOf]; omega) | simp [intOf]
    · have z0 := (HCc.out _ 2 L0.out).trans C2.out
      have z1 := (HCc.out _ 3 L0.out).trans C3.out
      go_wp2_with (go_at_call 13; refine (HP1.out _).mono ?_; rintro e wk ⟨rfl, hb⟩; obtain ⟨hcc, hcf⟩ := bcell hb; have HBk := Lib.hid hb; clear hb)
      go_roundw
      case rel => exact ⟨.inr (.inr (.inl (by go_num))), by
        have hb := HBk.out
        have := HL.out
        exact HbV.out.trans (((Below.refl W.heap.size wr).alloc (by omega) _).trans (hb.mono (by simp; omega)))⟩
      case measure => first | (simp [intOf]; omega) | simp [intOf]
    · have z0 := (HCc.out _ 4 L0.out).trans C4.out
      have z1 := (HCc.out _ 5 L0.out).trans C5.out
      go_wp2_with (go_at_call 13; refine (HP2.out _).mono ?_; rintro e wk ⟨rfl, hb⟩; obtain ⟨hcc, hcf⟩ := bcell hb; have HBk := Lib.hid hb; clear hb)
      go_roundw
      case rel => exact ⟨.inr (.inr (.inr (.inl (by go_num)))), by
        have hb := HBk.out
        have := HL.out
        exact HbV.out.trans (((Below.refl W.heap.size wr).alloc (by omega) _).trans (hb.mono (by simp; omega)))⟩
      case measure => first | (simp [intOf]; omega) | simp [intOf]
    · have z0 := (HCc.out _ 6 L0.out).trans C6.out
      have z1 := (HCc.out _ 7 L0.out).trans C7.out
      go_wp2_with (go_at_call 13; refine (HP3.out _).mono ?_; rintro e wk ⟨rfl, hb⟩; obtain ⟨hcc, hcf⟩ := bcell hb; have HBk := Lib.hid hb; clear hb)
      go_roundw
      case rel => exact ⟨.inr (.inr (.inr (.inr (.inl (by go_num))))), by
        have hb := HBk.out
        have := HL.out
        exact HbV.out.trans (((Below.refl W.heap.size wr).alloc (by omega) _).trans (hb.mono (by simp; omega)))⟩
      case measure => first | (simp [intOf]; omega) | simp [intOf]
    · have z0 := (HCc.out _ 8 L0.out).trans C8.out
      have z1 := (HCc.out _ 9 L0.out).trans C9.out
      go_wp2_with (go_at_call 13; refine (HP4.out _).mono ?_; rintro e wk ⟨rfl, hb⟩; obtain ⟨hcc, hcf⟩ := bcell hb; have HBk := Lib.hid hb; clear hb)
      go_roundw
      case rel => exact ⟨.inr (.inr (.inr (.inr (.inr (.inl (by go_num)))))), by
        have hb := HBk.out
        have := HL.out
        exact HbV.out.trans (((Below.refl W.heap.size wr).alloc (by omega) _).trans (hb.mono (by simp; omega)))⟩
      case measure => first | (simp [intOf]; omega) | simp [intOf]
    · have z0 := (HCc.out _ 10 L0.out).trans C10.out
      have z1 := (HCc.out _ 11 L0.out).trans C11.out
      go_wp2_with (go_at_call 13; refine (HP5.out _).mono ?_; rintro e wk ⟨rfl, hb⟩; obtain ⟨hcc, hcf⟩ := bcell hb; have HBk := Lib.hid hb; clear hb)
      go_roundw
      case rel => exact ⟨.inr (.inr (.inr (.inr (.inr (.inr (by go_num)))))), by
        have hb := HBk.out
        have := HL.out
        exact HbV.out.trans (((Below.refl W.heap.size wr).alloc (by omega) _).trans (hb.mono (by simp; omega)))⟩
      case measure => first | (simp [intOf]; omega) | simp [intOf]
    · have hB : Below w.heap.size w wr := HBW.out.trans (HbV.out.mono HBW.out.size)
      go_wp2_with (first | (go_at_call 16; with_reducible refine (HX0.out _ (HT.out.below hB)).mono ?_; rintro e wk ⟨rfl, hb⟩; replace hB := hB.trans (hb.mono hB.size); clear hb) | (go_at_call 16; with_reducible refine (HX1.out _ (HT.out.below hB)).mono ?_; rintro e wk ⟨rfl, hb⟩; replace hB := hB.trans (hb.mono hB.size); clear hb) | (go_at_call 16; with_reducible refine (HX2.out _ (HT.out.below hB)).mono ?_; rintro e wk ⟨rfl, hb⟩; replace hB := hB.trans (hb.mono hB.size); clear hb) | (go_at_call 21; with_reducible refine (HE.out _ ⟨HT.out.below hB, HRg.out.below hB⟩).mono ?_; rintro e wk ⟨rfl, hb⟩; replace hB := hB.trans (hb.mono hB.size); clear hb) | (go_at_call 41; with_reducible refine (HO.out _).mono ?_; rintro e wk ⟨rfl, hb⟩; replace hB := hB.trans (hb.mono hB.size); clear hb) | (go_at_call 23; refine (HS.out _).mono ?_; rintro e wk ⟨rfl, rfl⟩))
      go_ret
      exact ⟨rfl, hB⟩
end Go.Proofs.YtjbhfkcjmjhhdaaGreatDoor
