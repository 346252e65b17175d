/- The contract of Format. -/
import Derived.Test.YteaofninjbhiaaaDoorFormat
namespace Go.Proofs.YteaofninjbhiaaaDoor
open Go.RowKit

theorem infoS : (Tryd.prog.info? 9).map (fun i => (i.zero, i.size, i.bytes)) = some (some (.string ⟨#[]⟩), 1, 16) := by kernel_rfl
theorem str_one (x : ByteArray) : ∀ u ∈ [Value.string x], u.oneCell' = true := by simp; rfl
theorem item_yes {r : Int × Int} (h : r.1 < r.2) : item r = d3 r.1.toNat ++ ([32, 116, 104, 114, 117, 32] ++ d3 r.2.toNat) := if_pos h
theorem item_no {r : Int × Int} (h : ¬ r.1 < r.2) : item r = d3 r.1.toNat := if_neg h

theorem strs_cells {w : World} {base e g cap n : Nat} {PS : List ByteArray} (h : w.ownsRow base e 1 (.slice (some ⟨g, 0, none⟩) n cap) n (PS.map Value.string)) :
    ∀ (j : Nat) (x : ByteArray), PS[j]? = some x → w.cell? ⟨g, 0 + j, none⟩ = some (.string x) := by
  intro j x hj
  have := h.cells (g := g) rfl j (.string x) (by simp [hj])
  unfold Addr.add at this
  by_cases h0 : j = 0
  · subst h0; simpa using this
  · simpa [h0] using this
set_option maxHeartbeats 4000000 in
theorem format_any (A : Option Addr) (n c : Nat) (l : RL) (w : World) (hl : Rs w A n l) (hn : n ≤ 100000) (hT : Tab w) :
    Calls Tryd.prog 11 #[.slice A n c] w fun e w' => e = .returned (.tuple #[.string ⟨(formatL l).1.toArray⟩, .int .i64 (formatL l).2]) ∧ Below w.heap.size w w' := by
  by_cases h0 : chk l = 0
  · have hfin := Lib.hid (show formatL l = (fmtL l, 0) from if_pos h0)
    have H0 := Lib.hid h0
    clear h0
    obtain ⟨rfl, _⟩ := id hl
    go_enter Tryd.func11, Tryd.ntmps11
    go_wp2_with fail
    refine (check_any _ _ c l _ hl (by omega)).mono ?_
    rw [H0.out]
    rintro e w0 ⟨rfl, hb0⟩
    go_wp2_with fail
    go_loopw [5, 16] (fun v i wr => ∃ (k : Nat) (PS : List ByteArray), k ≤ l.length ∧ i = .int .i64 k ∧ PS.length = k ∧ PS.map (fun x => x.data.toList) = (l.take k).map item ∧ wr.ownsRow w.heap.size 9 1 v k (PS.map Value.string) ∧ Below w.heap.size w wr) (fun _ i _ => l.length - (intOf i).toNat)
    case atStart => exact ⟨0, [], Nat.zero_le _, rfl, rfl, by simp, World.ownsRow_nil _ _ _ _, hb0⟩
    case round =>
      clear hb0
      obtain ⟨k, PS, hk, rfl, hPS, hmap, hown, hb⟩ := hrel
      have hsz := hb.size
      have Hmap := Lib.hid hmap
      have HPS := Lib.hid hPS
      clear hmap hPS
      by_cases hlt : k < l.length
      · obtain ⟨b, o, rfl, hbl, hc1, hc2⟩ := (hl.below hb).at1 hlt
        have hrk := chk_ok H0.out l[k] (List.getElem_mem hlt)
        have hsuc := Lib.hid (List.take_succ_eq_append_getElem (l := l) hlt)
        obtain ⟨x, hx⟩ : ∃ x : Nat, l[k].1 = (x : Int) := ⟨l[k].1.toNat, by omega⟩
        obtain ⟨y, hy⟩ : ∃ y : Nat, l[k].2 = (y : Int) := ⟨l[k].2.toNat, by omega⟩
        have Hx := Lib.hid hx
        have Hy := Lib.hid hy
        rw [hx, hy] at hrk
        rw [hx] at hc1
        rw [hy] at hc2
        clear hx hy
        obtain ⟨hx1, hxy, hy9⟩ := hrk
        obtain ⟨D1, hD1⟩ : ∃ D1 : ByteArray, D1 = ⟨(d3 x).toArray⟩ := ⟨_, rfl⟩
        obtain ⟨D2, hD2⟩ : ∃ D2 : ByteArray, D2 = ⟨(d3 y).toArray⟩ := ⟨_, rfl⟩
        have h1 : D1.size ≤ 3 := by rw [hD1]; exact d3_length x
        have h2 : D2.size ≤ 3 := by rw [hD2]; exact d3_length y
        have hd1 := Lib.hid (show D1.data.toList = d3 x from by rw [hD1])
        have hd2 := Lib.hid (show D2.data.toList = d3 y from by rw [hD2])
        have HD1 := Lib.hid hD1
        have HD2 := Lib.hid hD2
        clear hD1 hD2
        by_cases hxy' : (x : Int) < y
        · have hI := Lib.hid (item_yes (r := l[k]) (by rw [Hx.out, Hy.out]; exact hxy'))
          rw [Hx.out, Hy.out, Int.toNat_natCast, Int.toNat_natCast] at hI
          go_wp2_with fail
          refine (itoa_any x (by omega) _ (hT.below (by (repeat (first | exact Below.refl _ _ | assumption | apply Below.drew | apply below_drewN | (refine Below.alloc ?_ (by first | omega | (simp; omega) | simp) _) | (refine Below.setCell ?_ (by first | omega | (simp; omega) | simp) _) | (refine Below.trans ?_ (Below.mono (by assumption) (by first | omega | (simp; omega) | simp)))))))).mono ?_
          rw [← HD1.out]
          rintro e w1 ⟨rfl, hb1⟩
          obtain ⟨hcc, hcf⟩ := bcell hb1
          have hz1 := hb1.size
          simp at hz1
          go_wp2_with fail
          refine (itoa_any y (by omega) _ (hT.below (by (repeat (first | exact Below.refl _ _ | assumption | apply Below.drew | apply below_drewN | (refine Below.alloc ?_ (by first | omega | (simp; omega) | simp) _) | (refine Below.setCell ?_ (by first | omega | (simp; omega) | simp) _) | (refine Below.trans ?_ (Below.mono (by assumption) (by first | omega | (simp; omega) | simp)))))))).mono ?_
          rw [← HD2.out]
          rintro e w2 ⟨rfl, hb2⟩
          clear hcc hcf
          have hz2 := hb2.size
          have hbw : Below w.heap.size w w2 := by (repeat (first | exact Below.refl _ _ | assumption | apply Below.drew | apply below_drewN | (refine Below.alloc ?_ (by first | omega | (simp; omega) | simp) _) | (refine Below.setCell ?_ (by first | omega | (simp; omega) | simp) _) | (refine Below.trans ?_ (Below.mono (by assumption) (by first | omega | (simp; omega) | simp)))))
          have hown2 := (hown.alloc (.cells #[.int .i64 x, .int .i64 y] 37)).kept (row := none) (w' := w2) ⟨hb2.os.trans hb1.os, hb2.tape.trans hb1.tape, hb2.output.trans hb1.output, Nat.le_trans hb1.size hb2.size, fun i hi _ => (hb2.block i (Nat.lt_of_lt_of_le hi hb1.size)).trans (hb1.block i hi)⟩ (by rcases hown.2 with ⟨h, _⟩ | ⟨g, cap, cur, h, _⟩ <;> rw [h] <;> simp [Value.ownBlock])
          clear hb1 hb2 hown
          obtain ⟨DD, hDD⟩ : ∃ DD : ByteArray, (D1 ++ (⟨#[32, 116, 104, 114, 117, 32]⟩ ++ D2)) = DD := ⟨_, rfl⟩
          have HDD := Lib.hid hDD
          clear hDD
          have tok1 : True := trivial
          go_wp2_with (at_builtin; clear tok1; rw [HDD.out]; (at_builtin; refine wpList_push rfl _ _ _ rfl w.heap.size _ _ 1 16 Tryd.underlying69 infoS rfl (by omega) _ k (PS.map Value.string) rfl hown2 [.string DD] _ _ _ rfl (by first | rfl | simp) rfl (str_one _) (by unfold maxLen; omega) (by omega) (by first | omega | (simp; omega) | simp) ?_; intro g cap w1 hown1 hg1))
          go_roundw
          case rel => exact ⟨k + 1, PS ++ [DD], by omega, by go_num, by have := HPS.out; simp; omega, by
            rw [hsuc.out, List.map_append, List.map_append, Hmap.out]
            congr 1
            simp only [List.map_cons, List.map_nil, ← HDD.out, app_data, hd1.out, hd2.out, hI.out], by rw [List.map_append]; exact hown1, below_push hbw (Nat.le_refl _) hown2 hg1⟩
          case measure => simp [intOf]; omega
        · have hI := Lib.hid (item_no (r := l[k]) (by rw [Hx.out, Hy.out]; exact hxy'))
          rw [Hx.out, Int.toNat_natCast] at hI
          go_wp2_with fail
          refine (itoa_any x (by omega) _ (hT.below (by (repeat (first | exact Below.refl _ _ | assumption | apply Below.drew | apply below_drewN | (refine Below.alloc ?_ (by first | omega | (simp; omega) | simp) _) | (refine Below.setCell ?_ (by first | omega | (simp; omega) | simp) _) | (refine Below.trans ?_ (Below.mono (by assumption) (by first | omega | (simp; omega) | simp)))))))).mono ?_
          rw [← HD1.out]
          rintro e w1 ⟨rfl, hb1⟩
          obtain ⟨hcc, hcf⟩ := bcell hb1
          have hz1 := hb1.size
          simp at hz1
          have hbw : Below w.heap.size w w1 := by (repeat (first | exact Below.refl _ _ | assumption | apply Below.drew | apply below_drewN | (refine Below.alloc ?_ (by first | omega | (simp; omega) | simp) _) | (refine Below.setCell ?_ (by first | omega | (simp; omega) | simp) _) | (refine Below.trans ?_ (Below.mono (by assumption) (by first | omega | (simp; omega) | simp)))))
          have hown2 := (hown.alloc (.cells #[.int .i64 x, .int .i64 y] 37)).kept (row := none) (w' := w1) ⟨hb1.os, hb1.tape, hb1.output, hb1.size, fun i hi _ => hb1.block i hi⟩ (by rcases hown.2 with ⟨h, _⟩ | ⟨g, cap, cur, h, _⟩ <;> rw [h] <;> simp [Value.ownBlock])
          clear hb1 hown
          go_wp2_with (at_builtin; refine wpList_push rfl _ _ _ rfl w.heap.size _ _ 1 16 Tryd.underlying69 infoS rfl (by omega) _ k (PS.map Value.string) rfl hown2 [.string D1] _ _ _ rfl (by first | rfl | simp) rfl (str_one _) (by unfold maxLen; omega) (by omega) (by first | omega | (simp; omega) | simp) ?_; intro g cap w1 hown1 hg1)
          go_roundw
          case rel => exact ⟨k + 1, PS ++ [D1], by omega, by go_num, by have := HPS.out; simp; omega, by
            rw [hsuc.out, List.map_append, List.map_append, Hmap.out]
            congr 1
            simp only [List.map_cons, List.map_nil, hd1.out, hI.out], by rw [List.map_append]; exact hown1, below_push hbw (Nat.le_refl _) hown2 hg1⟩
          case measure => simp [intOf]; omega
      · obtain rfl : k = l.length := by omega
        have hmp := Lib.hid (show PS.map (fun x => x.data.toList) = l.map item from by have := Hmap.out; rwa [List.take_length] at this)
        clear Hmap hT
        have hjoin := Lib.hid (show Lib.join (PS.map (fun x => x.data.toList)) sepP = fmtL l from by rw [hmp.out]; rfl)
        have hjl := fmt_length l
        rcases hown.2 with ⟨hv, hlen0⟩ | ⟨g, cap, cur, hv, hg0, hgb, hle, hcap, _⟩
        · subst hv
          have hl0 := Lib.hid (List.eq_nil_of_length_eq_zero hlen0)
          go_wp2_with fail
          refine (Tryd.strings_Join_none none 0 ⟨#[32, 43, 32]⟩ _).mono ?_
          rintro e w2 ⟨rfl, rfl⟩
          go_wp2_with fail
          go_ret2
          rw [hfin.out, hl0.out]
          exact ⟨rfl, hb⟩
        · subst hv
          have hlt2 : g < wr.heap.size := (Array.getElem?_eq_some_iff.1 hgb).1
          have hJ := Tryd.strings_Join g 0 cap PS ⟨#[32, 43, 32]⟩ wr (strs_cells hown) hlt2 (by rw [HPS.out]; omega) (by rw [HPS.out]; exact hle) (by show (Lib.join _ sepP).length ≤ _; rw [hjoin.out]; omega)
          have hJ' : Calls Tryd.prog 40 #[.slice (some ⟨g, 0, none⟩) l.length cap, .string ⟨#[32, 43, 32]⟩] wr fun e w' => e = .returned (.string ⟨(fmtL l).toArray⟩) ∧ Below wr.heap.size wr w' := by
            rw [← hjoin.out, ← HPS.out]; exact hJ
          have HJ := Lib.hid hJ'
          clear hJ hJ'
          go_wp2_with fail
          refine HJ.out.mono ?_
          rintro e w2 ⟨rfl, hb2⟩
          go_wp2_with fail
          go_ret2
          rw [hfin.out]
          exact ⟨rfl, hb.trans (hb2.mono hb.size)⟩
  · have hfin := Lib.hid (show formatL l = ([], chk l) from if_neg h0)
    generalize hx : chk l = x at *
    have Hx := Lib.hid hx
    clear hx
    have h0' : (x != 0) = true := by simpa using h0
    clear h0
    go_enter Tryd.func11, Tryd.ntmps11
    go_wp2_with fail
    refine (check_any _ _ c l _ hl (by omega)).mono ?_
    rw [Hx.out]
    rintro e w1 ⟨rfl, hb1⟩
    go_wp2_with fail
    go_ret2
    rw [hfin.out]
    exact ⟨rfl, hb1⟩
end Go.Proofs.YteaofninjbhiaaaDoor
