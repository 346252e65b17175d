/- The walk of the law RangesLists: it returns true, and nothing that was there has turned. -/
import Derived.StillTailTactics
import Derived.Test.YteaofninjbhiaaaDoorLawMakes
import Derived.Test.YteaofninjbhiaaaDoorHolds
import Derived.Test.YteaofninjbhiaaaDoorSorted
import Derived.Test.YteaofninjbhiaaaDoorPlainL
namespace Go.Proofs.YteaofninjbhiaaaDoor
open Go.RowKit

/-- a part of a slice of ints -/
theorem Is.part {w : World} {b o n : Nat} {l : List Int} (h : Is w (some ⟨b, o, none⟩) n l) (k m : Nat) (hk : k + m ≤ n) : Is w (some ⟨b, o + k, none⟩) m ((l.drop k).take m) := by
  obtain ⟨rfl, h1, h2⟩ := h
  refine ⟨by rw [List.length_take, List.length_drop]; omega, by simp [iv]; omega, fun hm => ?_⟩
  obtain ⟨b', o', e, hb, hc⟩ := h2 (by omega)
  injection e with e
  injection e with e1 e2
  subst e1; subst e2
  refine ⟨b, o + k, rfl, hb, fun j u hu => ?_⟩
  rw [Nat.add_assoc]
  refine hc (k + j) u ?_
  have hj : j < m := by
    have := (List.getElem?_eq_some_iff.1 hu).1
    simp [iv] at this; omega
  rw [← hu]
  simp [iv, hj, List.getElem?_drop]

set_option maxRecDepth 100000 in
set_option maxHeartbeats 8000000 in
theorem lists_walk (w : World) (A : Option Addr) (n c : Nat) (l : RL) (hl : Rs w A n l) (hn : n ≤ maxLen) (x : Int) (hx : (Lit.int .u8 x).wf = true) (hT : Tab w) :
    Calls Tryd.prog 9 #[.slice A n c, .int .u8 x] w fun e w' => e = .returned (.bool true) ∧ Below w.heap.size w w' := by
  unfold maxLen at hn
  have hx' : 0 ≤ x ∧ x ≤ 255 := by simpa [Lit.wf, IntKind.min, IntKind.max, IntKind.bits, IntKind.signed] using hx
  clear hx
  obtain ⟨hx0, hx1⟩ := hx'
  by_cases h : 60 < n
  · have h' : (60 : Int) < (n : Int) := by omega
    go_enter Tryd.func9, Tryd.ntmps9
    go_wp2_with fail
    refine (awake_any _ hT).mono ?_
    rintro e w1 ⟨rfl, hb1⟩
    go_wp2_with fail
    go_ret
    exact ⟨rfl, hb1⟩
  · have h' : ¬ (60 : Int) < (n : Int) := by omega
    have hll : l.length ≤ 1000 := by have := hl.1; omega
    by_cases h0 : chk l = 0
    · have hmax := listed_max h0
      have HS := Lib.hid (show ∀ k, (hk : k + 1 < (listed l).length) → (listed l)[k]'(Nat.lt_of_succ_lt hk) ≤ (listed l)[k + 1]'hk from fun k hk => listed_step h0 k hk)
      have HOf := Lib.hid (fun L (hL : L.length ≤ 4096) hm => of_listed h0 (L := L) hL hm)
      have HL := Lib.hid (show listL l = (listed l, 0) from if_pos h0)
      have HC := Lib.hid (show countL l = (((listed l).length : Int), 0) from if_pos h0)
      have H0 := Lib.hid h0
      clear h0
      generalize listed l = L at *
      by_cases hL0 : L.length = 0
      · have hof := Lib.hid (HOf.out L (by omega) (fun c => Iff.rfl))
        obtain rfl : L = [] := List.length_eq_zero_iff.1 hL0
        clear hL0 hmax
        go_enter Tryd.func9, Tryd.ntmps9
        go_wp2_with fail
        refine (check_any _ _ c l _ hl (by omega)).mono ?_
        rw [H0.out]
        rintro e w1 ⟨rfl, hB⟩
        replace hl := hl.below hB
        replace hT := hT.below hB
        go_wp2_with fail
        refine (list_any _ _ c l _ hl (by omega)).mono ?_
        rw [HL.out]
        rintro e w2 ⟨r, rfl, A2, c2, rfl, ho, hb⟩
        have hI : Is _ _ _ [] := ⟨rfl, Sl.of_own ho⟩
        clear ho
        replace hl := hl.below hb; replace hT := hT.below hb; replace hB := hB.trans (hb.mono hB.size); clear hb
        go_wp2_with fail
        refine (count_any _ _ c l _ hl (by omega)).mono ?_
        rw [HC.out]
        rintro e w3 ⟨rfl, hb⟩
        replace hl := hl.below hb; replace hT := hT.below hb; replace hI := hI.below hb; replace hB := hB.trans (hb.mono hB.size); clear hb
        go_wp2_with fail
        refine (sorted_any _ _ c2 [] _ hI (by simp) (by intro k hk; simp at hk)).mono ?_
        rintro e w4 ⟨rfl, hb⟩
        replace hl := hl.below hb; replace hT := hT.below hb; replace hI := hI.below hb; replace hB := hB.trans (hb.mono hB.size); clear hb
        go_wp2_with fail
        refine (of_any _ _ c2 [] _ hI (by simp)).mono ?_
        rw [hof.out]
        rintro e w5 ⟨r, rfl, A5, c5, rfl, ho, hb⟩
        have hR := OutR.rs ho rfl
        clear ho
        replace hl := hl.below hb; replace hT := hT.below hb; replace hB := hB.trans (hb.mono hB.size); clear hb
        go_wp2_with fail
        refine (equalR_same _ _ _ l _ _ _ _ hR hl hll).mono ?_
        rintro e w6 ⟨rfl, hb⟩
        replace hT := hT.below hb; replace hB := hB.trans (hb.mono hB.size); clear hb
        go_wp2_with fail
        refine (awake_any _ hT).mono ?_
        rintro e w7 ⟨rfl, hb⟩
        replace hB := hB.trans (hb.mono hB.size); clear hb
        go_wp2_with fail
        go_ret
        exact ⟨rfl, hB⟩
      · have hL1 : 0 < L.length := by omega
        have hmax' : ¬ (999 : Int) < (L.length : Int) := by omega
        clear hL0
        obtain ⟨k, hk⟩ : ∃ k : Nat, x % (L.length : Int) = (k : Int) := ⟨(x % (L.length : Int)).toNat, by rw [Int.toNat_of_nonneg (Int.emod_nonneg _ (by omega))]⟩
        have hkl : k < L.length := by have := Int.emod_lt_of_pos x (show 0 < (L.length : Int) by omega); omega
        have HK := Lib.hid hk
        clear hk
        go_enter Tryd.func9, Tryd.ntmps9
        go_wp2_with fail
        refine (check_any _ _ c l _ hl (by omega)).mono ?_
        rw [H0.out]
        rintro e w1 ⟨rfl, hB⟩
        replace hl := hl.below hB
        replace hT := hT.below hB
        go_wp2_with fail
        refine (list_any _ _ c l _ hl (by omega)).mono ?_
        rw [HL.out]
        rintro e w2 ⟨r, rfl, A2, c2, rfl, ho, hb⟩
        obtain ⟨g, hA2, hcap⟩ : ∃ g, A2 = some ⟨g, 0, none⟩ ∧ L.length ≤ c2 := by
          rcases ho.2 with ⟨_, h2⟩ | ⟨g, cap, cur, hv, _, _, hle, _⟩
          · dsimp only at h2; omega
          · injection hv with e1 _ e3
            exact ⟨g, e1, by rw [e3]; exact hle⟩
        subst hA2
        have hI : Is _ _ _ L := ⟨rfl, Sl.of_own ho⟩
        clear ho
        replace hl := hl.below hb; replace hT := hT.below hb; replace hB := hB.trans (hb.mono hB.size); clear hb
        go_wp2_with fail
        refine (count_any _ _ c l _ hl (by omega)).mono ?_
        rw [HC.out]
        rintro e w3 ⟨rfl, hb⟩
        replace hl := hl.below hb; replace hT := hT.below hb; replace hI := hI.below hb; replace hB := hB.trans (hb.mono hB.size); clear hb
        go_wp2_with fail
        refine (sorted_any _ _ c2 L _ hI (by omega) HS.out).mono ?_
        rintro e w4 ⟨rfl, hb⟩
        replace hl := hl.below hb; replace hT := hT.below hb; replace hI := hI.below hb; replace hB := hB.trans (hb.mono hB.size); clear hb
        go_wp2_with fail
        rw [HK.out]
        have hx1 := hI.part k (L.length - k) (by omega)
        have hx2 := hI.part 0 k (by omega)
        have hx3 := hI.part 0 1 (by omega)
        rw [List.take_of_length_le (by rw [List.length_drop]; omega), Nat.zero_add] at hx1
        rw [List.drop_zero, Nat.add_zero] at hx2 hx3
        have hck : c2 - k ≠ 0 := by omega
        have hof := Lib.hid (HOf.out (L.drop k ++ (L.take k ++ L.take 1)) (by simp; omega) (rot_mem L k))
        have hlr : (L.drop k ++ (L.take k ++ L.take 1)).length ≤ 2000 := by simp; omega
        have k0 : (0 : Int) ≤ (k : Int) := by omega
        have k1 : (k : Int) ≤ (L.length : Int) := by omega
        have k2 : (k : Int) ≤ (c2 : Int) := by omega
        have k3 : (1 : Int) ≤ (c2 : Int) := by omega
        refine wp_region_still_tail 8 (by kernel_rfl) (by kernel_rfl) ?_
        simp only [List.take_succ_cons, List.take_zero, List.drop_succ_cons, List.drop_zero]
        repeat still_step
        refine wpStill_nil ?_
        change wpList _ _ _ _ _ w4.drew
        have hbd := (Below.refl w4.heap.size w4).drew
        replace hx1 := hx1.below hbd
        replace hx2 := hx2.below hbd
        replace hx3 := hx3.below hbd
        replace hl := hl.below hbd; replace hT := hT.below hbd; replace hB := hB.trans (hbd.mono hB.size); clear hbd
        generalize w4.drew = w5 at *
        go_wp2_with fail
        have hbd := (Below.refl w5.heap.size w5).alloc (Nat.le_refl _) (.cells #[.slice (some ⟨g, k, none⟩) (L.length - k) (c2 - k), .slice (some ⟨g, 0, none⟩) k c2, .slice (some ⟨g, 0, none⟩) 1 c2] 54)
        replace hx1 := hx1.below hbd
        replace hx2 := hx2.below hbd
        replace hx3 := hx3.below hbd
        refine (concat_any w5.heap.size _ _ _ _ _ _ (c2 - k) c2 c2 _ _ _ _ ⟨by simp, by simp, by simp⟩ (by simp) hx1 hx2 hx3 (by omega) (by omega)).mono ?_
        rintro e w6 ⟨r, rfl, A6, c6, rfl, ho, hb⟩
        have hI6 : Is _ _ _ (L.drop k ++ (L.take k ++ L.take 1)) := ⟨rfl, Sl.of_own ho⟩
        clear ho hx1 hx2 hx3
        replace hb := hbd.trans (hb.mono (by simp))
        clear hbd
        replace hl := hl.below hb; replace hT := hT.below hb; replace hB := hB.trans (hb.mono hB.size); clear hb
        generalize L.drop k ++ (L.take k ++ L.take 1) = M at *
        go_wp2_with fail
        refine (of_any _ _ c6 M _ hI6 (by omega)).mono ?_
        rw [hof.out]
        rintro e w7 ⟨r, rfl, A7, c7, rfl, ho, hb⟩
        have hR := OutR.rs ho rfl
        clear ho
        replace hl := hl.below hb; replace hT := hT.below hb; replace hB := hB.trans (hb.mono hB.size); clear hb
        go_wp2_with fail
        refine (equalR_same _ _ _ l _ _ _ _ hR hl hll).mono ?_
        rintro e w8 ⟨rfl, hb⟩
        replace hT := hT.below hb; replace hB := hB.trans (hb.mono hB.size); clear hb
        go_wp2_with fail
        refine (awake_any _ hT).mono ?_
        rintro e w9 ⟨rfl, hb⟩
        replace hB := hB.trans (hb.mono hB.size); clear hb
        go_wp2_with fail
        go_ret
        exact ⟨rfl, hB⟩
    · generalize hy : chk l = y at *
      have Hy := Lib.hid hy
      clear hy
      have h0' : (y != 0) = true := by simpa using h0
      clear h0
      go_enter Tryd.func9, Tryd.ntmps9
      go_wp2_with fail
      refine (check_any _ _ c l _ hl (by omega)).mono ?_
      rw [Hy.out]
      rintro e w1 ⟨rfl, hB⟩
      replace hT := hT.below hB
      go_wp2_with fail
      refine (awake_any _ hT).mono ?_
      rintro e w3 ⟨rfl, hb1⟩
      replace hB := hB.trans (hb1.mono hB.size); clear hb1
      go_wp2_with fail
      go_ret
      exact ⟨rfl, hB⟩
end Go.Proofs.YteaofninjbhiaaaDoor
