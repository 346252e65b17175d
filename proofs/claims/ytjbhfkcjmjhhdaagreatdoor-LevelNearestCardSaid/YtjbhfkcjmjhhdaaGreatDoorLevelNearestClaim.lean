/- LevelNearest: for every input the law returns true, and its arguments read behind the call as they read before. The package variables that the row lists hold what the program's text lays. -/
import Derived.Test.YtjbhfkcjmjhhdaaGreatDoorGLevB
import Derived.Test.YtjbhfkcjmjhhdaaGreatDoorGLaw
import Derived.Test.YtjbhfkcjmjhhdaaGreatDoorCards
import Derived.Test.YtjbhfkcjmjhhdaaGreatDoorTie
import Derived.SevenTiedAt
namespace Go.Proofs.YtjbhfkcjmjhhdaaGreatDoor
open Go.RowKit

theorem wf_i64 {n : Int} (h : (Lit.int .i64 n).wf = true) : -9223372036854775808 ≤ n ∧ n ≤ 9223372036854775807 := by simpa [Lit.wf, IntKind.min, IntKind.max, IntKind.bits, IntKind.signed] using h
theorem wf_u16 {n : Int} (h : (Lit.int .u16 n).wf = true) : 0 ≤ n ∧ n ≤ 65535 := by simpa [Lit.wf, IntKind.min, IntKind.max, IntKind.bits, IntKind.signed] using h
theorem wf_u8 {n : Int} (h : (Lit.int .u8 n).wf = true) : 0 ≤ n ∧ n ≤ 255 := by simpa [Lit.wf, IntKind.min, IntKind.max, IntKind.bits, IntKind.signed] using h
set_option maxRecDepth 100000 in
set_option maxHeartbeats 4000000 in
theorem percents_walk (w : World) (s : ByteArray) (hs : s.size ≤ maxLen) (hL : Laid w) :
    Calls Tryz.prog 3 #[.string s] w fun e w' => e = .returned (.bool true) ∧ Below w.heap.size w w' := by
  unfold maxLen at hs
  have hB := Below.refl w.heap.size w
  have HT := Lib.hid hL.1
  have HRg := Lib.hid hL.2
  have HAw := Lib.hid (fun w h g => vawake_any w h g)
  have HP := Lib.hid (fun w => vpercent_any s w hs)
  have HQ := Lib.hid (fun w => rlpercent_any s w hs)
  generalize (pctT s.data.toList).1 = p at *
  generalize (pctT s.data.toList).2 = q at *
  clear hL
  go_enter Tryz.func3, Tryz.ntmps3
  go_wp2_with (first | (go_at_call 13; with_reducible refine (HP.out _).mono ?_; rintro e wk ⟨rfl, hb⟩; replace hB := hB.trans (hb.mono hB.size); clear hb) | (go_at_call 14; with_reducible refine (HQ.out _).mono ?_; rintro e wk ⟨rfl, hb⟩; replace hB := hB.trans (hb.mono hB.size); clear hb) | (go_at_call 15; with_reducible refine (HAw.out _ (HT.out.below hB) (HRg.out.below hB)).mono ?_; rintro e wk ⟨rfl, hb⟩; replace hB := hB.trans (hb.mono hB.size); clear hb))
  go_ret
  exact ⟨rfl, hB⟩
theorem vtext_any (v : Int) (w : World) (ht : Tab w) :
    Calls Tryz.prog 16 #[.int .i64 v] w fun e w' => e = .returned (.tuple #[.string ⟨(if 0 ≤ v ∧ v ≤ 65535 then namedT v else []).toArray⟩, .int .i64 (if 0 ≤ v ∧ v ≤ 65535 then 0 else 2)]) ∧ Below w.heap.size w w' := by
  by_cases h : 0 ≤ v ∧ v ≤ 65535
  · rw [if_pos h, if_pos h]; exact vtext_ok v w ht h.1 h.2
  · rw [if_neg h, if_neg h]; exact vtext_bad v w h
set_option maxRecDepth 100000 in
set_option maxHeartbeats 4000000 in
theorem texts_walk (w : World) (v : Int) (_ : (Lit.int .i64 v).wf = true) (hL : Laid w) :
    Calls Tryz.prog 4 #[.int .i64 v] w fun e w' => e = .returned (.bool true) ∧ Below w.heap.size w w' := by
  have hB := Below.refl w.heap.size w
  have HT := Lib.hid hL.1
  have HRg := Lib.hid hL.2
  have HAw := Lib.hid (fun w h g => vawake_any w h g)
  have HP := Lib.hid (fun w h => vtext_any v w h)
  have HQ := Lib.hid (fun w => rltext_any v w)
  have HC := Lib.hid (fun w => vcheck_any v w)
  have HD := Lib.hid (fun w => rlcheck_any v w)
  generalize (⟨(if 0 ≤ v ∧ v ≤ 65535 then namedT v else []).toArray⟩ : ByteArray) = p at *
  generalize (if 0 ≤ v ∧ v ≤ 65535 then (0 : Int) else 2) = q at *
  have g1 : (p.toList == p.toList) = true := by simp
  clear hL
  go_enter Tryz.func4, Tryz.ntmps4
  go_wp2_with (first | (go_at_call 16; with_reducible refine (HP.out _ (HT.out.below hB)).mono ?_; rintro e wk ⟨rfl, hb⟩; replace hB := hB.trans (hb.mono hB.size); clear hb) | (go_at_call 17; with_reducible refine (HQ.out _).mono ?_; rintro e wk ⟨rfl, hb⟩; replace hB := hB.trans (hb.mono hB.size); clear hb) | (go_at_call 18; with_reducible refine (HC.out _).mono ?_; rintro e wk ⟨rfl, rfl⟩) | (go_at_call 19; with_reducible refine (HD.out _).mono ?_; rintro e wk ⟨rfl, rfl⟩) | (go_at_call 15; with_reducible refine (HAw.out _ (HT.out.below hB) (HRg.out.below hB)).mono ?_; rintro e wk ⟨rfl, hb⟩; replace hB := hB.trans (hb.mono hB.size); clear hb))
  go_ret
  exact ⟨rfl, hB⟩
set_option maxRecDepth 100000 in
set_option maxHeartbeats 4000000 in
theorem raws_walk (w : World) (s : ByteArray) (hs : s.size ≤ maxLen) (hL : Laid w) :
    Calls Tryz.prog 7 #[.string s] w fun e w' => e = .returned (.bool true) ∧ Below w.heap.size w w' := by
  unfold maxLen at hs
  have hB := Below.refl w.heap.size w
  have HT := Lib.hid hL.1
  have HRg := Lib.hid hL.2
  have HAw := Lib.hid (fun w h g => vawake_any w h g)
  have hF := fun w => sfew_any s w hs
  by_cases hf : s.size ≤ 120
  · simp only [decide_eq_true hf] at hF
    have HF := Lib.hid hF
    have H1 := Lib.hid (fun w h g => veight_any s w (by omega) h g)
    have H2 := Lib.hid (fun w => rleight_any s w (by omega))
    have H3 := Lib.hid (fun w h g => vsixteen_any s w (by omega) h g)
    have H4 := Lib.hid (fun w => rlsixteen_any s w (by omega))
    generalize (eightT s.data.toList).1 = a at *
    generalize (eightT s.data.toList).2 = b at *
    generalize (sixteenT s.data.toList).1 = c at *
    generalize (sixteenT s.data.toList).2 = d at *
    clear hL hF hf
    go_enter Tryz.func7, Tryz.ntmps7
    go_wp2_with (first | (go_at_call 24; with_reducible refine (HF.out _).mono ?_; rintro e wk ⟨rfl, hb⟩; replace hB := hB.trans (hb.mono hB.size); clear hb) | (go_at_call 21; with_reducible refine (H1.out _ (HT.out.below hB) (HRg.out.below hB)).mono ?_; rintro e wk ⟨rfl, hb⟩; replace hB := hB.trans (hb.mono hB.size); clear hb) | (go_at_call 25; with_reducible refine (H2.out _).mono ?_; rintro e wk ⟨rfl, hb⟩; replace hB := hB.trans (hb.mono hB.size); clear hb) | (go_at_call 26; with_reducible refine (H3.out _ (HT.out.below hB) (HRg.out.below hB)).mono ?_; rintro e wk ⟨rfl, hb⟩; replace hB := hB.trans (hb.mono hB.size); clear hb) | (go_at_call 27; with_reducible refine (H4.out _).mono ?_; rintro e wk ⟨rfl, hb⟩; replace hB := hB.trans (hb.mono hB.size); clear hb) | (go_at_call 15; with_reducible refine (HAw.out _ (HT.out.below hB) (HRg.out.below hB)).mono ?_; rintro e wk ⟨rfl, hb⟩; replace hB := hB.trans (hb.mono hB.size); clear hb))
    go_ret
    exact ⟨rfl, hB⟩
  · simp only [decide_eq_false hf] at hF
    have HF := Lib.hid hF
    clear hL hF hf
    go_enter Tryz.func7, Tryz.ntmps7
    go_wp2_with (first | (go_at_call 24; with_reducible refine (HF.out _).mono ?_; rintro e wk ⟨rfl, hb⟩; replace hB := hB.trans (hb.mono hB.size); clear hb) | (go_at_call 15; with_reducible refine (HAw.out _ (HT.out.below hB) (HRg.out.below hB)).mono ?_; rintro e wk ⟨rfl, hb⟩; replace hB := hB.trans (hb.mono hB.size); clear hb))
    go_ret
    exact ⟨rfl, hB⟩
set_option maxRecDepth 100000 in
set_option maxHeartbeats 4000000 in
theorem bytes_walk (w : World) (a : Int) (_ : (Lit.int .i64 a).wf = true) (b : Int) (_ : (Lit.int .i64 b).wf = true) (hL : Laid w) :
    Calls Tryz.prog 10 #[.int .i64 a, .int .i64 b] w fun e w' => e = .returned (.bool true) ∧ Below w.heap.size w w' := by
  have hB := Below.refl w.heap.size w
  have HT := Lib.hid hL.1
  have HRg := Lib.hid hL.2
  have HAw := Lib.hid (fun w h g => vawake_any w h g)
  have H1 := Lib.hid (fun w => vOf_any a b w)
  have H2 := Lib.hid (fun w => rlraw_any a b w)
  have H3 := Lib.hid (fun w => vsplit_any a w)
  have H4 := Lib.hid (fun w => rlsplit_any a w)
  have H5 := Lib.hid (fun w => vjoin_any a b w)
  have H6 := Lib.hid (fun w => rljoin_any a b w)
  have H7 := Lib.hid (fun w => vscale_any a b w)
  have H8 := Lib.hid (fun w => rlscale_any a b w)
  generalize (rawT a b).1 = x1 at *
  generalize (rawT a b).2 = x2 at *
  generalize (splitT a).1 = x3 at *
  generalize (splitT a).2.1 = x4 at *
  generalize (splitT a).2.2 = x5 at *
  generalize (joinT a b).1 = x6 at *
  generalize (joinT a b).2 = x7 at *
  generalize (scaleT a b).1 = x8 at *
  generalize (scaleT a b).2 = x9 at *
  clear hL
  go_enter Tryz.func10, Tryz.ntmps10
  go_wp2_with (first | (go_at_call 41; with_reducible refine (H1.out _).mono ?_; rintro e wk ⟨rfl, hb⟩; replace hB := hB.trans (hb.mono hB.size); clear hb) | (go_at_call 42; with_reducible refine (H2.out _).mono ?_; rintro e wk ⟨rfl, rfl⟩) | (go_at_call 43; with_reducible refine (H3.out _).mono ?_; rintro e wk ⟨rfl, rfl⟩) | (go_at_call 44; with_reducible refine (H4.out _).mono ?_; rintro e wk ⟨rfl, rfl⟩) | (go_at_call 45; with_reducible refine (H5.out _).mono ?_; rintro e wk ⟨rfl, rfl⟩) | (go_at_call 46; with_reducible refine (H6.out _).mono ?_; rintro e wk ⟨rfl, rfl⟩) | (go_at_call 23; with_reducible refine (H7.out _).mono ?_; rintro e wk ⟨rfl, rfl⟩) | (go_at_call 47; with_reducible refine (H8.out _).mono ?_; rintro e wk ⟨rfl, rfl⟩) | (go_at_call 15; with_reducible refine (HAw.out _ (HT.out.below hB) (HRg.out.below hB)).mono ?_; rintro e wk ⟨rfl, hb⟩; replace hB := hB.trans (hb.mono hB.size); clear hb))
  go_ret
  exact ⟨rfl, hB⟩
end Go.Proofs.YtjbhfkcjmjhhdaaGreatDoor

namespace Go.Proofs.YtjbhfkcjmjhhdaaGreatDoor
open Go.RowKit

theorem head_point {q r : BT} (h : ∀ c ∈ q, c ≠ 46) : headB 46 (q ++ 46 :: r) = q ∧ hasB 46 (q ++ 46 :: r) = true ∧ tailB 46 (q ++ 46 :: r) = r := by
  have h1 : ∀ c ∈ q, (c != 46) = true := fun c hc => by simpa using h c hc
  have h2 : hasB 46 (q ++ 46 :: r) = true := by unfold hasB; simp
  refine ⟨?_, h2, ?_⟩
  · unfold headB
    rw [List.takeWhile_append_of_pos h1]
    simp
  · unfold tailB
    rw [h2, if_pos rfl, List.dropWhile_append_of_pos h1]
    simp

theorem reads_cases {v : Int} (h0 : 0 ≤ v) (h1 : v ≤ 65535) :
    hasB 46 (namedT v) = false ∨ (hasB 46 (namedT v) = true ∧ (tailB 46 (namedT v)).length ≤ 1 ∧ ∃ x, pctT (headB 46 (namedT v)) = (x, 0) ∧ x ≠ v) ∨
    (hasB 46 (namedT v) = true ∧ 1 < (tailB 46 (namedT v)).length ∧ ∃ x, pctT (namedT v).dropLast = (x, 0) ∧ x ≠ v) := by
  by_cases hv : v = 65535
  · left; rw [hv]; rfl
  have hn : namedT v = textD (kOf v (unitD (decsOf v))) (decsOf v) := by unfold namedT; rw [if_neg hv]
  obtain ⟨k0, k1, _, _⟩ := kOf_spec (decsOf v) h0 h1
  obtain ⟨p0, p1, p2, p3⟩ := part_bd (decsOf v) k0 k1
  have hdg : ∀ c ∈ Lib.itoa (kOf v (unitD (decsOf v)) / partD (decsOf v)), c ≠ 46 := fun c hc => dg_ne (itoa_dgs p0 c hc) (by decide)
  by_cases hd : decsOf v = 0
  · left
    rw [hn]
    unfold textD hasB
    rw [if_pos hd, List.append_nil, List.any_eq_false]
    intro c hc
    simpa using hdg c hc
  have hs := pct_short h0 (by omega) (by omega)
  have hle := decs_le v
  have hpp : partD (decsOf v) = 10 ^ decsOf v := by
    obtain h | h | h : decsOf v = 1 ∨ decsOf v = 2 ∨ decsOf v = 3 := by omega
    all_goals rw [h]; rfl
  have hl := padD_len (d := decsOf v) p2 (by omega) (by rw [← hpp]; exact p3)
  obtain ⟨e1, e2, e3⟩ := head_point (r := padD (decsOf v) (kOf v (unitD (decsOf v)) % partD (decsOf v))) hdg
  rw [← textD_point hd, ← hn] at e1 e2 e3
  rw [e1, e2, e3, hl]
  by_cases h : decsOf v = 1
  · rw [if_pos h] at hs
    exact .inr (.inl ⟨rfl, by omega, hs⟩)
  · rw [if_neg h, ← hn] at hs
    exact .inr (.inr ⟨rfl, by omega, hs⟩)
theorem namedT_len {v : Int} (h0 : 0 ≤ v) (h1 : v ≤ 65535) : (namedT v).length ≤ 100 := by
  unfold namedT
  split
  · decide
  · obtain ⟨k0, k1, _, _⟩ := kOf_spec (decsOf v) h0 h1
    obtain ⟨p0, p1, p2, p3⟩ := part_bd (decsOf v) k0 k1
    have l1 := itoa_lt (k := 3) p0 (by omega) (by omega)
    have hle := decs_le v
    unfold textD
    split
    · simp; omega
    · rename_i hd
      have hpp : partD (decsOf v) = 10 ^ decsOf v := by
        obtain h | h | h : decsOf v = 1 ∨ decsOf v = 2 ∨ decsOf v = 3 := by omega
        all_goals rw [h]; rfl
      have hl := padD_len (d := decsOf v) p2 (by omega) (by rw [← hpp]; exact p3)
      rw [List.length_append, List.length_cons, hl]
      omega
set_option maxRecDepth 100000 in
set_option maxHeartbeats 4000000 in
theorem reads_walk (w : World) (v : Int) (hv : (Lit.int .u16 v).wf = true) (hL : Laid w) :
    Calls Tryz.prog 5 #[.int .u16 v] w fun e w' => e = .returned (.bool true) ∧ Below w.heap.size w w' := by
  obtain ⟨v0, v1⟩ := wf_u16 hv
  have hB := Below.refl w.heap.size w
  have HT := Lib.hid hL.1
  have HRg := Lib.hid hL.2
  have HAw := Lib.hid (fun w h g => vawake_any w h g)
  have hlen := namedT_len v0 v1
  have HX := Lib.hid (fun w h => vtext_ok v w h v0 v1)
  have hP := fun w => vpercent_any ⟨(namedT v).toArray⟩ w (by rw [← bytes_len]; show (namedT v).length ≤ _; omega)
  rw [show (⟨(namedT v).toArray⟩ : ByteArray).data.toList = namedT v from rfl, pct_named v0 v1] at hP
  have hC := fun w => scutd_any ⟨(namedT v).toArray⟩ w (by rw [← bytes_len]; show (namedT v).length ≤ _; omega)
  rw [show (⟨(namedT v).toArray⟩ : ByteArray).data.toList = namedT v from rfl] at hC
  have HP := Lib.hid hP
  rcases reads_cases v0 v1 with h1 | ⟨h1, h2, x, h3, h4⟩ | ⟨h1, h2, x, h3, h4⟩
  · rw [h1] at hC
    have HC := Lib.hid hC
    generalize (⟨(namedT v).toArray⟩ : ByteArray) = Z at *
    clear hL hP hC h1 hlen hv
    go_enter Tryz.func5, Tryz.ntmps5
    go_wp2_with (first | (go_at_call 16; with_reducible refine (HX.out _ (HT.out.below hB)).mono ?_; rintro e wk ⟨rfl, hb⟩; replace hB := hB.trans (hb.mono hB.size); clear hb) | (go_at_call 13; with_reducible refine (HP.out _).mono ?_; rintro e wk ⟨rfl, hb⟩; replace hB := hB.trans (hb.mono hB.size); clear hb) | (go_at_call 20; refine (HC.out _).mono ?_; rintro e w1 ⟨rfl, n, rfl⟩; replace hB := below_drewN hB n) | (go_at_call 15; with_reducible refine (HAw.out _ (HT.out.below hB) (HRg.out.below hB)).mono ?_; rintro e wk ⟨rfl, hb⟩; replace hB := hB.trans (hb.mono hB.size); clear hb))
    go_ret
    exact ⟨rfl, hB⟩
  · rw [h1] at hC
    have HC := Lib.hid hC
    have hQ := fun w => vpercent_any ⟨(headB 46 (namedT v)).toArray⟩ w (by
      rw [← bytes_len]
      show (headB 46 (namedT v)).length ≤ _
      have := (List.takeWhile_prefix (p := fun c : UInt8 => c != 46) (l := namedT v)).length_le
      have : (headB 46 (namedT v)).length ≤ (namedT v).length := this
      omega)
    rw [show (⟨(headB 46 (namedT v)).toArray⟩ : ByteArray).data.toList = headB 46 (namedT v) from rfl, h3] at hQ
    have HQ := Lib.hid hQ
    have hr : (⟨(tailB 46 (namedT v)).toArray⟩ : ByteArray).size ≤ 1 := by rw [← bytes_len]; exact h2
    have g1 : (x == v) = false := by simpa using h4
    have g2 : (x != v) = true := by simpa using h4
    generalize (⟨(namedT v).toArray⟩ : ByteArray) = Z at *
    generalize (⟨(headB 46 (namedT v)).toArray⟩ : ByteArray) = U at *
    generalize (⟨(tailB 46 (namedT v)).toArray⟩ : ByteArray) = V at *
    clear hL hP hC h1 h2 h3 h4 hQ hlen hv
    go_enter Tryz.func5, Tryz.ntmps5
    go_wp2_with (first | (go_at_call 16; with_reducible refine (HX.out _ (HT.out.below hB)).mono ?_; rintro e wk ⟨rfl, hb⟩; replace hB := hB.trans (hb.mono hB.size); clear hb) | (go_at_call 13; with_reducible refine (HP.out _).mono ?_; rintro e wk ⟨rfl, hb⟩; replace hB := hB.trans (hb.mono hB.size); clear hb) | (go_at_call 20; refine (HC.out _).mono ?_; rintro e w1 ⟨rfl, n, rfl⟩; replace hB := below_drewN hB n) | (go_at_call 13; with_reducible refine (HQ.out _).mono ?_; rintro e wk ⟨rfl, hb⟩; replace hB := hB.trans (hb.mono hB.size); clear hb) | (go_at_call 15; with_reducible refine (HAw.out _ (HT.out.below hB) (HRg.out.below hB)).mono ?_; rintro e wk ⟨rfl, hb⟩; replace hB := hB.trans (hb.mono hB.size); clear hb))
    go_ret
    exact ⟨rfl, hB⟩
  · rw [h1] at hC
    have HC := Lib.hid hC
    have hsz : (⟨(namedT v).toArray⟩ : ByteArray).size = (namedT v).length := by rw [← bytes_len]
    have hlt : (tailB 46 (namedT v)).length < (namedT v).length := by
      have := (head_some h1)
      rw [this.2.1, List.length_drop]
      have := this.2.2
      omega
    have hE : ((⟨(namedT v).toArray⟩ : ByteArray).extract 0 ((⟨(namedT v).toArray⟩ : ByteArray).size - 1)).data.toList = (namedT v).dropLast := by
      rw [take_bytes0, hsz, List.dropLast_eq_take]
    have hQ := fun w => vpercent_any ((⟨(namedT v).toArray⟩ : ByteArray).extract 0 ((⟨(namedT v).toArray⟩ : ByteArray).size - 1)) w (by
      rw [← bytes_len, hE, List.length_dropLast]; omega)
    rw [hE, h3] at hQ
    have HQ := Lib.hid hQ
    have hr : 1 < (⟨(tailB 46 (namedT v)).toArray⟩ : ByteArray).size := by rw [← bytes_len]; exact h2
    have hz1 : 1 ≤ (⟨(namedT v).toArray⟩ : ByteArray).size := by rw [hsz]; omega
    have hz2 : (⟨(namedT v).toArray⟩ : ByteArray).size ≤ 100 := by rw [hsz]; omega
    have g1 : (x == v) = false := by simpa using h4
    have g2 : (x != v) = true := by simpa using h4
    generalize (⟨(namedT v).toArray⟩ : ByteArray) = Z at *
    generalize (⟨(tailB 46 (namedT v)).toArray⟩ : ByteArray) = V at *
    have c1 : (1 : Int) ≤ (Z.size : Int) := by omega
    have c2 : ((Z.size : Int) - 1).toNat = Z.size - 1 := by omega
    clear hL hP hC h1 h2 h3 h4 hQ hlen hv hsz hlt hE
    go_enter Tryz.func5, Tryz.ntmps5
    go_wp2_with (first | (go_at_call 16; with_reducible refine (HX.out _ (HT.out.below hB)).mono ?_; rintro e wk ⟨rfl, hb⟩; replace hB := hB.trans (hb.mono hB.size); clear hb) | (go_at_call 13; with_reducible refine (HP.out _).mono ?_; rintro e wk ⟨rfl, hb⟩; replace hB := hB.trans (hb.mono hB.size); clear hb) | (go_at_call 20; refine (HC.out _).mono ?_; rintro e w1 ⟨rfl, n, rfl⟩; replace hB := below_drewN hB n) | (go_at_call 13; with_reducible refine (HQ.out _).mono ?_; rintro e wk ⟨rfl, hb⟩; replace hB := hB.trans (hb.mono hB.size); clear hb) | (go_at_call 15; with_reducible refine (HAw.out _ (HT.out.below hB) (HRg.out.below hB)).mono ?_; rintro e wk ⟨rfl, hb⟩; replace hB := hB.trans (hb.mono hB.size); clear hb))
    go_ret
    exact ⟨rfl, hB⟩
theorem whole_eight {z : Int} (h0 : 0 ≤ z) (h1 : z ≤ 65535) (w : World) (ht : Tab w) (hg : Rng w) :
    Calls Tryz.prog 21 #[.string (sR (z : Rat))] w fun e w' => e = .returned (.tuple #[.int .i64 ((2 * z + 257) / 514), .int .i64 0]) ∧ Below w.heap.size w w' := by
  rw [sR_int]
  have := veight_any (sI z) w (Nat.le_trans (sI_len (k := 5) (by omega) (by omega)) (by omega)) ht hg
  rw [sI_list, eight_int h0 h1] at this
  exact this
theorem scale_le {a b : Int} (h0 : 0 ≤ a) (h1 : a ≤ 65535) (h2 : 0 ≤ b) (h3 : b ≤ 65535) : (2 * a * b + 65535) / 131070 ≤ a ∧ (2 * a * b + 65535) / 131070 ≤ b := by
  have e1 : a * b ≤ a * 65535 := Int.mul_le_mul_of_nonneg_left h3 h0
  have e2 : a * b ≤ 65535 * b := Int.mul_le_mul_of_nonneg_right h1 h2
  rw [Int.mul_assoc]
  generalize a * b = p at *
  omega
theorem scale_mono {a b c : Int} (h0 : 0 ≤ c) (h : a ≤ b) : (2 * a * c + 65535) / 131070 ≤ (2 * b * c + 65535) / 131070 := by
  have e1 : a * c ≤ b * c := Int.mul_le_mul_of_nonneg_right h h0
  rw [Int.mul_assoc, Int.mul_assoc]
  generalize a * c = p at *
  generalize b * c = q at *
  omega
set_option maxRecDepth 100000 in
set_option maxHeartbeats 4000000 in
theorem rises_walk0 (w : World) (a b c : Int) (a0 : 0 ≤ a) (a1 : a ≤ 65535) (b0 : 0 ≤ b) (b1 : b ≤ 65535) (c0 : 0 ≤ c) (c1 : c ≤ 65535) (p q : Int) (hpq : (a ≤ b ∧ p = a ∧ q = b) ∨ (¬ a ≤ b ∧ p = b ∧ q = a)) (hL : Laid w) :
    Calls Tryz.prog 6 #[.int .u16 a, .int .u16 b, .int .u16 c] w fun e w' => e = .returned (.bool true) ∧ Below w.heap.size w w' := by
  have hB := Below.refl w.heap.size w
  have HT := Lib.hid hL.1
  have HRg := Lib.hid hL.2
  have HAw := Lib.hid (fun w h g => vawake_any w h g)
  have hp : 0 ≤ p ∧ p ≤ 65535 ∧ 0 ≤ q ∧ q ≤ 65535 ∧ p ≤ q := by omega
  obtain ⟨p0, p1, q0, q1, pq⟩ := hp
  have HW1 := Lib.hid (fun w => swhole_fit (x := p) (by omega) (by omega) w)
  have HW2 := Lib.hid (fun w => swhole_fit (x := q) (by omega) (by omega) w)
  have HE1 := Lib.hid (fun w h g => whole_eight p0 p1 w h g)
  have HE2 := Lib.hid (fun w h g => whole_eight q0 q1 w h g)
  have sc := fun {a b : Int} (h0 : 0 ≤ a) (h1 : a ≤ 65535) (h2 : 0 ≤ b) (h3 : b ≤ 65535) w => (show Calls Tryz.prog 23 #[.int .i64 a, .int .i64 b] w fun e w' => e = .returned (.tuple #[.int .i64 ((2 * a * b + 65535) / 131070), .int .i64 0]) ∧ w = w' by
    have := vscale_any a b w
    rw [show scaleT a b = ((2 * a * b + 65535) / 131070, 0) by unfold scaleT; rw [if_pos ⟨⟨h0, h1⟩, h2, h3⟩]] at this
    exact this)
  have HS1 := Lib.hid (fun w => sc p0 p1 c0 c1 w)
  have HS2 := Lib.hid (fun w => sc q0 q1 c0 c1 w)
  have HS3 := Lib.hid (fun w => sc c0 c1 p0 p1 w)
  obtain ⟨l1, l2⟩ := scale_le p0 p1 c0 c1
  have l3 := scale_mono c0 pq
  have l4 : (2 * p + 257) / 514 ≤ (2 * q + 257) / 514 := by omega
  have e5 : (2 * c * p + 65535) / 131070 = (2 * p * c + 65535) / 131070 := by rw [Int.mul_assoc, Int.mul_comm c p, ← Int.mul_assoc]
  rw [e5] at HS3
  generalize (2 * p * c + 65535) / 131070 = s1 at *
  generalize (2 * q * c + 65535) / 131070 = s2 at *
  generalize (2 * p + 257) / 514 = x at *
  generalize (2 * q + 257) / 514 = y at *
  clear sc hL e5
  rcases hpq with ⟨hab, rfl, rfl⟩ | ⟨hab, rfl, rfl⟩
  · have hn : ¬ q < p := by omega
    clear hab
    go_enter Tryz.func6, Tryz.ntmps6
    go_wp2_with (first | (go_at_call 22; with_reducible refine (HW1.out _).mono ?_; rintro e wk ⟨rfl, hb⟩; replace hB := hB.trans (hb.mono hB.size); clear hb) | (go_at_call 22; with_reducible refine (HW2.out _).mono ?_; rintro e wk ⟨rfl, hb⟩; replace hB := hB.trans (hb.mono hB.size); clear hb) | (go_at_call 21; with_reducible refine (HE1.out _ (HT.out.below hB) (HRg.out.below hB)).mono ?_; rintro e wk ⟨rfl, hb⟩; replace hB := hB.trans (hb.mono hB.size); clear hb) | (go_at_call 21; with_reducible refine (HE2.out _ (HT.out.below hB) (HRg.out.below hB)).mono ?_; rintro e wk ⟨rfl, hb⟩; replace hB := hB.trans (hb.mono hB.size); clear hb) | (go_at_call 23; with_reducible refine (HS1.out _).mono ?_; rintro e wk ⟨rfl, rfl⟩) | (go_at_call 23; with_reducible refine (HS2.out _).mono ?_; rintro e wk ⟨rfl, rfl⟩) | (go_at_call 23; with_reducible refine (HS3.out _).mono ?_; rintro e wk ⟨rfl, rfl⟩) | (go_at_call 15; with_reducible refine (HAw.out _ (HT.out.below hB) (HRg.out.below hB)).mono ?_; rintro e wk ⟨rfl, hb⟩; replace hB := hB.trans (hb.mono hB.size); clear hb))
    go_ret
    exact ⟨rfl, hB⟩
  · have hn : p < q := by omega
    clear hab
    go_enter Tryz.func6, Tryz.ntmps6
    go_wp2_with (first | (go_at_call 22; with_reducible refine (HW1.out _).mono ?_; rintro e wk ⟨rfl, hb⟩; replace hB := hB.trans (hb.mono hB.size); clear hb) | (go_at_call 22; with_reducible refine (HW2.out _).mono ?_; rintro e wk ⟨rfl, hb⟩; replace hB := hB.trans (hb.mono hB.size); clear hb) | (go_at_call 21; with_reducible refine (HE1.out _ (HT.out.below hB) (HRg.out.below hB)).mono ?_; rintro e wk ⟨rfl, hb⟩; replace hB := hB.trans (hb.mono hB.size); clear hb) | (go_at_call 21; with_reducible refine (HE2.out _ (HT.out.below hB) (HRg.out.below hB)).mono ?_; rintro e wk ⟨rfl, hb⟩; replace hB := hB.trans (hb.mono hB.size); clear hb) | (go_at_call 23; with_reducible refine (HS1.out _).mono ?_; rintro e wk ⟨rfl, rfl⟩) | (go_at_call 23; with_reducible refine (HS2.out _).mono ?_; rintro e wk ⟨rfl, rfl⟩) | (go_at_call 23; with_reducible refine (HS3.out _).mono ?_; rintro e wk ⟨rfl, rfl⟩) | (go_at_call 15; with_reducible refine (HAw.out _ (HT.out.below hB) (HRg.out.below hB)).mono ?_; rintro e wk ⟨rfl, hb⟩; replace hB := hB.trans (hb.mono hB.size); clear hb))
    go_ret
    exact ⟨rfl, hB⟩
theorem rises_walk (w : World) (a : Int) (ha : (Lit.int .u16 a).wf = true) (b : Int) (hb : (Lit.int .u16 b).wf = true) (c : Int) (hc : (Lit.int .u16 c).wf = true) (hL : Laid w) :
    Calls Tryz.prog 6 #[.int .u16 a, .int .u16 b, .int .u16 c] w fun e w' => e = .returned (.bool true) ∧ Below w.heap.size w w' := by
  obtain ⟨a0, a1⟩ := wf_u16 ha
  obtain ⟨b0, b1⟩ := wf_u16 hb
  obtain ⟨c0, c1⟩ := wf_u16 hc
  by_cases h : a ≤ b
  · exact rises_walk0 w a b c a0 a1 b0 b1 c0 c1 a b (.inl ⟨h, rfl, rfl⟩) hL
  · exact rises_walk0 w a b c a0 a1 b0 b1 c0 c1 b a (.inr ⟨h, rfl, rfl⟩) hL
set_option maxRecDepth 100000 in
set_option maxHeartbeats 4000000 in
theorem returns_walk (w : World) (r : Int) (hr : (Lit.int .u16 r).wf = true) (hL : Laid w) :
    Calls Tryz.prog 12 #[.int .u16 r] w fun e w' => e = .returned (.bool true) ∧ Below w.heap.size w w' := by
  obtain ⟨r0, r1⟩ := wf_u16 hr
  have hB := Below.refl w.heap.size w
  have HT := Lib.hid hL.1
  have HRg := Lib.hid hL.2
  have HAw := Lib.hid (fun w h g => vawake_any w h g)
  have d0 : 0 ≤ r / 256 := by omega
  have d1 : r / 256 ≤ 255 := by omega
  have HO1 := Lib.hid (fun w => (show Calls Tryz.prog 41 #[.int .i64 (r / 256), .int .i64 8] w fun e w' => e = .returned (.tuple #[.int .i64 (257 * (r / 256)), .int .i64 0]) ∧ Below w.heap.size w w' by
    have := vOf_any (r / 256) 8 w
    rw [show rawT (r / 256) 8 = (257 * (r / 256), 0) by unfold rawT; rw [if_neg (by omega), if_neg (by omega), if_pos rfl]] at this
    exact this))
  have HO2 := Lib.hid (fun w => (show Calls Tryz.prog 41 #[.int .i64 r, .int .i64 16] w fun e w' => e = .returned (.tuple #[.int .i64 r, .int .i64 0]) ∧ Below w.heap.size w w' by
    have := vOf_any r 16 w
    rw [show rawT r 16 = (r, 0) by unfold rawT; rw [if_neg (by omega), if_neg (by omega), if_neg (by omega)]] at this
    exact this))
  have HW1 := Lib.hid (fun w => swhole_fit (x := 257 * (r / 256)) (by omega) (by omega) w)
  have hE1 := fun w h g => whole_eight (z := 257 * (r / 256)) (by omega) (by omega) w h g
  have HE1 := Lib.hid (fun w h g => (show Calls Tryz.prog 21 #[.string (sR ((257 * (r / 256) : Int) : Rat))] w fun e w' => e = .returned (.tuple #[.int .i64 (r / 256), .int .i64 0]) ∧ Below w.heap.size w w' by
    have := hE1 w h g
    rw [show (2 * (257 * (r / 256)) + 257) / 514 = r / 256 by omega] at this
    exact this))
  have HW2 := Lib.hid (fun w => rwhole_s (x := r) (by omega) (by omega) w)
  have HE2 := Lib.hid (fun w h g => (show Calls Tryz.prog 26 #[.string (sI r)] w fun e w' => e = .returned (.tuple #[.int .i64 r, .int .i64 0]) ∧ Below w.heap.size w w' by
    have := vsixteen_any (sI r) w (Nat.le_trans (sI_len (k := 5) (by omega) (by omega)) (by omega)) h g
    rw [sI_list, sixteen_int r0 r1] at this
    exact this))
  have HS := Lib.hid (fun w => (show Calls Tryz.prog 43 #[.int .i64 r] w fun e w' => e = .returned (.tuple #[.int .i64 (r / 256), .int .i64 (r % 256), .int .i64 0]) ∧ w = w' by
    have := vsplit_any r w
    rw [show splitT r = (r / 256, r % 256, 0) by unfold splitT; rw [if_pos ⟨r0, r1⟩]] at this
    exact this))
  have HJ := Lib.hid (fun w => (show Calls Tryz.prog 45 #[.int .i64 (r / 256), .int .i64 (r % 256)] w fun e w' => e = .returned (.tuple #[.int .i64 r, .int .i64 0]) ∧ w = w' by
    have := vjoin_any (r / 256) (r % 256) w
    rw [show joinT (r / 256) (r % 256) = (r, 0) by unfold joinT; rw [if_pos (by omega)]; congr 1; omega] at this
    exact this))
  have HC1 := Lib.hid (fun w => (show Calls Tryz.prog 23 #[.int .i64 r, .int .i64 65535] w fun e w' => e = .returned (.tuple #[.int .i64 r, .int .i64 0]) ∧ w = w' by
    have := vscale_any r 65535 w
    rw [show scaleT r 65535 = (r, 0) by unfold scaleT; rw [if_pos (by omega)]; congr 1; omega] at this
    exact this))
  have HC2 := Lib.hid (fun w => (show Calls Tryz.prog 23 #[.int .i64 r, .int .i64 0] w fun e w' => e = .returned (.tuple #[.int .i64 0, .int .i64 0]) ∧ w = w' by
    have := vscale_any r 0 w
    rw [show scaleT r 0 = (0, 0) by unfold scaleT; rw [if_pos (by omega)]; congr 1; omega] at this
    exact this))
  generalize sR ((257 * (r / 256) : Int) : Rat) = Z at *
  clear hL hE1
  go_enter Tryz.func12, Tryz.ntmps12
  go_wp2_with (first | (go_at_call 41; with_reducible refine (HO1.out _).mono ?_; rintro e wk ⟨rfl, hb⟩; replace hB := hB.trans (hb.mono hB.size); clear hb) | (go_at_call 41; with_reducible refine (HO2.out _).mono ?_; rintro e wk ⟨rfl, hb⟩; replace hB := hB.trans (hb.mono hB.size); clear hb) | (go_at_call 22; with_reducible refine (HW1.out _).mono ?_; rintro e wk ⟨rfl, hb⟩; replace hB := hB.trans (hb.mono hB.size); clear hb) | (go_at_call 21; with_reducible refine (HE1.out _ (HT.out.below hB) (HRg.out.below hB)).mono ?_; rintro e wk ⟨rfl, hb⟩; replace hB := hB.trans (hb.mono hB.size); clear hb) | (go_at_call 53; with_reducible refine (HW2.out _).mono ?_; rintro e wk ⟨rfl, hb⟩; replace hB := hB.trans (hb.mono hB.size); clear hb) | (go_at_call 26; with_reducible refine (HE2.out _ (HT.out.below hB) (HRg.out.below hB)).mono ?_; rintro e wk ⟨rfl, hb⟩; replace hB := hB.trans (hb.mono hB.size); clear hb) | (go_at_call 43; with_reducible refine (HS.out _).mono ?_; rintro e wk ⟨rfl, rfl⟩) | (go_at_call 45; with_reducible refine (HJ.out _).mono ?_; rintro e wk ⟨rfl, rfl⟩) | (go_at_call 23; with_reducible refine (HC1.out _).mono ?_; rintro e wk ⟨rfl, rfl⟩) | (go_at_call 23; with_reducible refine (HC2.out _).mono ?_; rintro e wk ⟨rfl, rfl⟩) | (go_at_call 15; with_reducible refine (HAw.out _ (HT.out.below hB) (HRg.out.below hB)).mono ?_; rintro e wk ⟨rfl, hb⟩; replace hB := hB.trans (hb.mono hB.size); clear hb))
  go_ret
  exact ⟨rfl, hB⟩
end Go.Proofs.YtjbhfkcjmjhhdaaGreatDoor

namespace Go.Proofs.YtjbhfkcjmjhhdaaGreatDoor
open Go.RowKit

theorem mhalf_bytes : (⟨#[45, 49, 47, 50]⟩ : ByteArray) = sR (-halfR) := sR_of (by
  show [45, 49, 47, 50] = rT (-halfR)
  have h1 : (-halfR).den = 2 := by decide +kernel
  have h2 : (-halfR).num = -1 := by decide +kernel
  unfold rT
  rw [h1, h2, if_neg (by decide), itoa_neg' (by decide), dec_small (by decide), dec_small (by decide)]
  rfl)
theorem nearest_ord (r : Rat) : ordR (r - (((r + halfR).floor : Int) : Rat)) halfR < 0 ∧ ¬ ordR (r - (((r + halfR).floor : Int) : Rat)) (-halfR) < 0 := by
  obtain ⟨h1, h2⟩ := floor_bd (r + halfR)
  have h3 := half_two
  rw [ordR_neg, ordR_neg]
  constructor
  · grind
  · refine Rat.not_lt.2 ?_
    grind
theorem part_val {v p : Int} (h0 : 0 ≤ v) (h1 : v ≤ 65534) (p0 : 0 ≤ p) (p1 : p ≤ 255) : InL ((v : Rat) + Rat.divInt p 256) := by
  have hd : Rat.divInt p 256 * 256 = (p : Rat) := by
    rw [Rat.divInt_eq_div, Rat.div_def]
    have : ((256 : Int) : Rat) = 256 := rfl
    rw [this, Rat.mul_assoc, Rat.inv_mul_cancel _ (by decide), Rat.mul_one]
  have a0 : (0 : Rat) ≤ (v : Rat) := cast_le.2 h0
  have a1 : (v : Rat) ≤ 65534 := cast_le.2 h1
  have b0 : (0 : Rat) ≤ (p : Rat) := cast_le.2 p0
  have b1 : (p : Rat) ≤ 255 := cast_le.2 p1
  constructor <;> grind
theorem half_sz1 : SzR 1 (-halfR) := half_sz.neg
set_option maxRecDepth 100000 in
set_option maxHeartbeats 4000000 in
theorem nearest_walk (w : World) (v : Int) (hv : (Lit.int .u16 v).wf = true) (p : Int) (hp : (Lit.int .u8 p).wf = true) (hL : Laid w) :
    Calls Tryz.prog 9 #[.int .u16 v, .int .u8 p] w fun e w' => e = .returned (.bool true) ∧ Below w.heap.size w w' := by
  obtain ⟨v0, v1⟩ := wf_u16 hv
  obtain ⟨p0, p1⟩ := wf_u8 hp
  have hB := Below.refl w.heap.size w
  have HT := Lib.hid hL.1
  have HRg := Lib.hid hL.2
  have HAw := Lib.hid (fun w h g => vawake_any w h g)
  have HW := Lib.hid (fun w => swhole_fit (x := v) (by omega) (by omega) w)
  have HE := Lib.hid (fun w h g => whole_eight v0 v1 w h g)
  have HO := Lib.hid (fun w => sover_fit (x := p) (y := 256) (by omega) (by omega) (by omega) (by omega) (by omega) w)
  have sv : SzR 5 ((v : Int) : Rat) := SzR.int (by omega) (by omega)
  have sp : SzR 3 (Rat.divInt p 256) := SzR.red (by omega) (by omega) (by decide)
  have HPl := Lib.hid (fun w => splus_fit sv sp w (by omega) (by omega))
  obtain ⟨x, hx, hxs, hxi⟩ : ∃ x : Rat, (v = 65535 ∧ x = ((v : Int) : Rat) ∨ v ≠ 65535 ∧ x = ((v : Int) : Rat) + Rat.divInt p 256) ∧ SzR 10 x ∧ InL x := by
    by_cases h : v = 65535
    · exact ⟨_, .inl ⟨h, rfl⟩, sv.up (by omega), inL_int v0 v1⟩
    · exact ⟨_, .inr ⟨h, rfl⟩, (sv.add sp).up (by omega), part_val v0 (by omega) p0 p1⟩
  have hxz : (sR x).size ≤ 100 := Nat.le_trans hxs.len (by omega)
  have HSx := Lib.hid (fun w h g => (show Calls Tryz.prog 26 #[.string (sR x)] w fun e w' => e = .returned (.tuple #[.int .i64 (x + halfR).floor, .int .i64 0]) ∧ Below w.heap.size w w' by
    have := vsixteen_any (sR x) w (by omega) h g
    rw [show sixteenT (sR x).data.toList = ((x + halfR).floor, 0) by
      have hc := chkR_sR (r := x) (hxs.fit (by omega))
      have hv : valR (sR x).data.toList = x := by rw [sR_list]; exact valR_rT x
      have he : errLv (sR x).data.toList = 0 := by unfold errLv; rw [hc, if_neg (by decide), hv, if_pos hxi]
      unfold sixteenT
      rw [he, if_neg (by decide), hv]] at this
    exact this))
  obtain ⟨b0, b1⟩ := near_bd hxi
  have sz : SzR 5 (((x + halfR).floor : Int) : Rat) := SzR.int (by omega) (by omega)
  have HWz := Lib.hid (fun w => swhole_fit (x := (x + halfR).floor) (by omega) (by omega) w)
  have HMi := Lib.hid (fun w => sminus_fit hxs sz w (by omega) (by omega))
  have hO1 := fun w => sorder_fit (hxs.sub sz) half_sz w (by omega) (by omega)
  have hO2 := fun w => sorder_fit (hxs.sub sz) half_sz1 w (by omega) (by omega)
  rw [← half_bytes] at hO1
  rw [← mhalf_bytes] at hO2
  have HO1 := Lib.hid hO1
  have HO2 := Lib.hid hO2
  obtain ⟨o1, o2⟩ := nearest_ord x
  generalize ordR (x - (((x + halfR).floor : Int) : Rat)) halfR = c1 at *
  generalize ordR (x - (((x + halfR).floor : Int) : Rat)) (-halfR) = c2 at *
  generalize x - (((x + halfR).floor : Int) : Rat) = d at *
  have e1 : 0 ≤ (2 * v + 257) / 514 := by omega
  have e2 : (2 * v + 257) / 514 ≤ 255 := by omega
  have e3 : ¬ 257 ≤ 2 * (v - 257 * ((2 * v + 257) / 514)) := by omega
  have e4 : ¬ 2 * (v - 257 * ((2 * v + 257) / 514)) < -257 := by omega
  have o3 : 0 ≤ c2 := by omega
  generalize (2 * v + 257) / 514 = r8 at *
  rcases hx with ⟨h, hx⟩ | ⟨h, hx⟩
  · have g1 : (v == 65535) = true := by simpa using h
    rw [← hx] at HW HE HPl
    generalize (x + halfR).floor = z at *
    clear hL hO1 hO2 sv sp hxs hxi hxz sz b0 b1 hv hp hx h
    go_enter Tryz.func9, Tryz.ntmps9
    go_wp2_with (first | (go_at_call 22; with_reducible refine (HW.out _).mono ?_; rintro e wk ⟨rfl, hb⟩; replace hB := hB.trans (hb.mono hB.size); clear hb) | (go_at_call 21; with_reducible refine (HE.out _ (HT.out.below hB) (HRg.out.below hB)).mono ?_; rintro e wk ⟨rfl, hb⟩; replace hB := hB.trans (hb.mono hB.size); clear hb) | (go_at_call 38; with_reducible refine (HO.out _).mono ?_; rintro e wk ⟨rfl, hb⟩; replace hB := hB.trans (hb.mono hB.size); clear hb) | (go_at_call 37; with_reducible refine (HPl.out _).mono ?_; rintro e wk ⟨rfl, hb⟩; replace hB := hB.trans (hb.mono hB.size); clear hb) | (go_at_call 26; with_reducible refine (HSx.out _ (HT.out.below hB) (HRg.out.below hB)).mono ?_; rintro e wk ⟨rfl, hb⟩; replace hB := hB.trans (hb.mono hB.size); clear hb) | (go_at_call 22; with_reducible refine (HWz.out _).mono ?_; rintro e wk ⟨rfl, hb⟩; replace hB := hB.trans (hb.mono hB.size); clear hb) | (go_at_call 39; with_reducible refine (HMi.out _).mono ?_; rintro e wk ⟨rfl, hb⟩; replace hB := hB.trans (hb.mono hB.size); clear hb) | (go_at_call 40; with_reducible refine (HO1.out _).mono ?_; rintro e wk ⟨rfl, hb⟩; replace hB := hB.trans (hb.mono hB.size); clear hb) | (go_at_call 40; with_reducible refine (HO2.out _).mono ?_; rintro e wk ⟨rfl, hb⟩; replace hB := hB.trans (hb.mono hB.size); clear hb) | (go_at_call 15; with_reducible refine (HAw.out _ (HT.out.below hB) (HRg.out.below hB)).mono ?_; rintro e wk ⟨rfl, hb⟩; replace hB := hB.trans (hb.mono hB.size); clear hb))
    go_ret
    exact ⟨rfl, hB⟩
  · have g1 : (v == 65535) = false := by simpa using h
    rw [← hx] at HPl
    generalize (x + halfR).floor = z at *
    clear hL hO1 hO2 sv sp hxs hxi hxz sz b0 b1 hv hp hx h
    go_enter Tryz.func9, Tryz.ntmps9
    go_wp2_with (first | (go_at_call 22; with_reducible refine (HW.out _).mono ?_; rintro e wk ⟨rfl, hb⟩; replace hB := hB.trans (hb.mono hB.size); clear hb) | (go_at_call 21; with_reducible refine (HE.out _ (HT.out.below hB) (HRg.out.below hB)).mono ?_; rintro e wk ⟨rfl, hb⟩; replace hB := hB.trans (hb.mono hB.size); clear hb) | (go_at_call 38; with_reducible refine (HO.out _).mono ?_; rintro e wk ⟨rfl, hb⟩; replace hB := hB.trans (hb.mono hB.size); clear hb) | (go_at_call 37; with_reducible refine (HPl.out _).mono ?_; rintro e wk ⟨rfl, hb⟩; replace hB := hB.trans (hb.mono hB.size); clear hb) | (go_at_call 26; with_reducible refine (HSx.out _ (HT.out.below hB) (HRg.out.below hB)).mono ?_; rintro e wk ⟨rfl, hb⟩; replace hB := hB.trans (hb.mono hB.size); clear hb) | (go_at_call 22; with_reducible refine (HWz.out _).mono ?_; rintro e wk ⟨rfl, hb⟩; replace hB := hB.trans (hb.mono hB.size); clear hb) | (go_at_call 39; with_reducible refine (HMi.out _).mono ?_; rintro e wk ⟨rfl, hb⟩; replace hB := hB.trans (hb.mono hB.size); clear hb) | (go_at_call 40; with_reducible refine (HO1.out _).mono ?_; rintro e wk ⟨rfl, hb⟩; replace hB := hB.trans (hb.mono hB.size); clear hb) | (go_at_call 40; with_reducible refine (HO2.out _).mono ?_; rintro e wk ⟨rfl, hb⟩; replace hB := hB.trans (hb.mono hB.size); clear hb) | (go_at_call 15; with_reducible refine (HAw.out _ (HT.out.below hB) (HRg.out.below hB)).mono ?_; rintro e wk ⟨rfl, hb⟩; replace hB := hB.trans (hb.mono hB.size); clear hb))
    go_ret
    exact ⟨rfl, hB⟩
end Go.Proofs.YtjbhfkcjmjhhdaaGreatDoor

namespace Go.Proofs.YtjbhfkcjmjhhdaaGreatDoor.levelNearestP
open Go.ChangeShapes Go.ChangeMaps Go.WideShapes Go.ChangeAt Go.RowKit

set_option maxRecDepth 100000 in
theorem lifted (os : Os) (started : os.Started) (H : Type) (enc : TypeId × Value → H) :
    ReturnsInHanded {} Tryz.checked os 9 .any (fun w args => (Rows.levelNearestSpec.pre enc Tryz.prog Tryz.f9 [] false w args ∧ laidMetH Tryz.prog Rows.levelNearestRow.laid w) ∧ sizedMet enc Tryz.prog Tryz.f9 (OpenSpec.ofChange Rows.levelNearestSpec) false w args)
      (Rows.levelNearestSpec.post enc Tryz.prog Tryz.f9 false true false false) := by
  refine returnsInHanded_of_change_and (C := Tryz.checked) (X := fun w _ => laidMetH Tryz.prog Rows.levelNearestRow.laid w) (fun _ _ _ hh h => h.of_heap hh) own_ started (by kernel_rfl) Tryz.func9
    (ChangeSpec.witness_at (enc := enc) (C := Tryz.checked) (os := os) (X := fun w _ => laidMetH Tryz.prog Rows.levelNearestRow.laid w) false (laidWorld os) #[.int .u16 0, .int .u8 0] 8 rfl (by kernel_rfl) (by kernel_rfl) (by kernel_rfl) (by kernel_rfl) (by kernel_rfl) (laid_met os _)) ?_
  intro W base args ds gs before hval0 hW _ _ hL _
  have hval : ∀ (j : Nat) t v, Tryz.f9.params[j]? = some t → args[j]? = some v → Value.okWide Tryz.prog W .any base t v := hval0
  have hW' := hW
  obtain ⟨p, q, hA0, hV, rfl, hfz, hnd⟩ := hW
  have hA : DataW.TrodAll enc Tryz.prog W 0 (fun _ => true) true Tryz.f9.params.toList args.toList ds p := hA0
  rw [Tryz.params9] at hA hval
  obtain ⟨v0, vs0, d0, ds0, p0, q0, hargs, rfl, rfl, h0, r0⟩ := trodAll_cons hA
  obtain ⟨v1, vs1, d1, ds1, p1, q1, rfl, rfl, rfl, h1, r1⟩ := trodAll_cons r0
  obtain ⟨rfl, rfl, rfl⟩ := trodAll_nil r1
  obtain rfl : args = #[v0, v1] := by cases args; simp_all
  obtain ⟨rfl, rfl⟩ := trodVars_none hV
  obtain ⟨x0, rfl, rfl, rfl, w0⟩ := open_int Tryz.underlying36 (hval 0 36 v0 rfl rfl) h0
  obtain ⟨x1, rfl, rfl, rfl, w1⟩ := open_int Tryz.underlying5 (hval 1 5 v1 rfl rfl) h1
  clear hA0 hval0
  simp only [List.append_nil] at hW'
  refine (nearest_walk W x0 w0 x1 w1 (laid_of hL)).mono fun e W' ⟨he, bel⟩ => ?_
  subst he
  exact ⟨_, rfl, _, _, _, [], _, [], hW', trodAll_mk1 (shut_bool Tryz.underlying4 _), (trodAll_cons_mk (shut_int Tryz.underlying36 w0) (trodAll_cons_mk (shut_int Tryz.underlying5 w1) trodAll_mk0)), rfl, bel.frame _, fun h => by cases h⟩

theorem over : Rows.levelNearestRow.holds Tryz.pinned (OpenSpec.ofChange Rows.levelNearestSpec) :=
  OpenClaim.holds_of_wide 9 Tryz.f9 rfl rfl rfl rfl rfl rfl rfl ⟨rfl, rfl, rfl, rfl, rfl⟩ rfl rfl rfl rfl rfl (by kernel_rfl) Tryz.func9 (by kernel_rfl)
    (of_decide_eq_true (by kernel_rfl)) (by unfold Func.isWrapper; rw [if_neg (of_decide_eq_false (by kernel_rfl))]; exact ⟨rfl, rfl⟩)
    (fun os started H enc _ => lifted os started H enc)

theorem noStandIn : ∀ t ∈ Tryz.f9.params.toList, Tryz.prog.wantsStandIn t = false := by
  rw [Tryz.params9]
  intro t ht
  simp only [List.mem_cons, List.not_mem_nil, or_false] at ht
  rcases ht with rfl | rfl <;> kernel_rfl

theorem proved : Rows.LevelNearestCardSaid :=
  Claim7.holds_tied_plain_at .later [] [.data, .data, .data, .data, .sentinel, .sentinel, .pinned] true (true, "a3705f77de91121ad3690cd473750cf63f56c5fd481251e259dd121ea00c8e18") true
    over (fun _ h => by cases h) (by kernel_rfl) (fun _ h => by cases h) levelNearest_row_tie rfl ⟨rfl, rfl⟩ (by kernel_rfl) rfl
    (fun f fn hf hfn => by
      obtain rfl : f = 9 := Option.some.inj ((show Tryz.prog.funcNamed "luminaire/luminairelaw04.LevelNearest" = some 9 by kernel_rfl).symm.trans hf) |>.symm
      obtain rfl : fn = Tryz.f9 := (Option.some.inj (Tryz.func9.symm.trans hfn)).symm
      exact ⟨by kernel_rfl, fun j t ht => noStandIn t (Array.mem_toList_iff.2 (Array.mem_of_getElem? ht))⟩)
    (by kernel_rfl)
#print axioms proved
end Go.Proofs.YtjbhfkcjmjhhdaaGreatDoor.levelNearestP
