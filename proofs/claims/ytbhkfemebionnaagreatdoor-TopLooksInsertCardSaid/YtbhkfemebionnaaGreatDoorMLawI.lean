/- Lemmas and contracts of functions, joined for the claim: LwI. -/
import Derived.Test.YtbhkfemebionnaaGreatDoorMLiD
import Derived.Test.YtbhkfemebionnaaGreatDoorMLiA
import Derived.Test.YtbhkfemebionnaaGreatDoorMFour
namespace Go.Proofs.YtbhkfemebionnaaGreatDoor
open Go.RowKit

theorem lk_few {no pri : Int} {X : List CV} (hok : LsOK no pri X) (k : Nat) : (lkS (X.map CV.sk) k).length ≤ 1000000 := by
  unfold lkS
  rw [List.length_map]
  have h7 := fp_len (X.map CV.sk)
  have h8 := psS_len (ok_ms hok)
  have h9 := hok.few
  omega
set_option maxRecDepth 100000 in
set_option maxHeartbeats 32000000 in
theorem tinsert_walk (no pri : Int) (A : Option Addr) (n c : Nat) (X : List CV) (num : ByteArray) (w : World) (hX : InC w A n X) (hf : ∀ x ∈ X, x.fitS) (hn : n ≤ 9223372036854775807) (hnum : num.size ≤ 9223372036854775807) :
    Calls Tryz.prog 4 #[.agg #[.int .i64 no, .int .i64 pri, .slice A n c], .string num] w fun e w' => e = .returned (.bool true) ∧ Below w.heap.size w w' := by
  have hn2 : n = X.length := hX.len
  subst hn2
  have hfit : ∀ x ∈ X, x.fit := fun x hx => ⟨(hf x hx).1, (hf x hx).2.1⟩
  obtain ⟨W, hW⟩ : ∃ W, W = (w.alloc (.cells #[.int .i64 no, .int .i64 pri, .slice A X.length c] 24)) := ⟨_, rfl⟩
  obtain ⟨hB0, hK0⟩ := box1 #[.int .i64 no, .int .i64 pri, .slice A X.length c] 24 w W hW
  have hK : ∀ w', Below W.heap.size W w' → w'.cell? ⟨w.heap.size, 0, none⟩ = some (.int .i64 no) ∧ w'.cell? ⟨w.heap.size, 1, none⟩ = some (.int .i64 pri) ∧ w'.cell? ⟨w.heap.size, 2, none⟩ = some (.slice A X.length c) := fun w' h => ⟨(hK0 w' h) 0 _ rfl, (hK0 w' h) 1 _ rfl, (hK0 w' h) 2 _ rfl⟩
  have HK := Lib.hid hK
  have HW := Lib.hid hW
  have HB0 := Lib.hid hB0
  have hB := Below.refl W.heap.size W
  obtain ⟨c0, c1, c2⟩ := hK W hB
  clear hW hB0 hK hK0
  have HX := Lib.hid (hX.below HB0.out)
  have HCs := Lib.hid (fun V (h : Below W.heap.size W V) => caselist_any no pri A X.length c X V (hX.below (HB0.out.trans (h.mono HB0.out.size))) hfit hn)
  have HPl := Lib.hid (fun V (h : Below W.heap.size W V) => rplace_any no pri A X.length c X num V (hX.below (HB0.out.trans (h.mono HB0.out.size))) hn)
  have HCk := Lib.hid (fun V => rnum_any num V hnum)
  have HFs := Lib.hid hf
  have HSz := Lib.hid hnum
  have HGe := Lib.hid (idxOf_ge (p := numQ num) X)
  clear hX hf hfit hn hnum
  go_enter Tryz.func4, Tryz.ntmps4
  go_wp2_with fail
  rw [← HW.out]
  refine (HCs.out _ hB).mono ?_
  rintro e W1 ⟨⟨b, rfl, hbl⟩, hb⟩
  have HBl := Lib.hid hbl
  have HB1 := Lib.hid hb
  clear hB hb hbl HCs
  obtain ⟨c0, c1, c2⟩ := HK.out _ HB1.out
  cases b with
  | false =>
    clear c0 c1 c2
    go_wp2_with fail
    refine (caselooks_any W1).mono ?_
    rintro e w2 ⟨rfl, hb2⟩
    go_wp2_with fail
    go_ret
    exact ⟨rfl, HB0.out.trans ((HB1.out.trans (hb2.mono HB1.out.size)).mono HB0.out.size)⟩
  | true =>
    by_cases g40 : (40 : Int) < (num.size : Int)
    · clear c0 c1 c2
      go_wp2_with fail
      refine (caselooks_any W1).mono ?_
      rintro e w2 ⟨rfl, hb2⟩
      go_wp2_with fail
      go_ret
      exact ⟨rfl, HB0.out.trans ((HB1.out.trans (hb2.mono HB1.out.size)).mono HB0.out.size)⟩
    · go_wp2_with fail
      refine (HCk.out _).mono ?_
      rintro e w2 ⟨rfl, m, rfl⟩
      have HB2 := Lib.hid (below_drewN HB1.out m)
      generalize hW2 : W1.drewN m = W2 at *
      clear hW2 c0 c1 c2
      obtain ⟨c0, c1, c2⟩ := HK.out _ HB2.out
      by_cases hE : numE num.data.toList = 0
      · rw [hE]
        go_wp2_with fail
        refine (HPl.out _ HB2.out).mono ?_
        rintro e w3 ⟨rfl, hb3⟩
        have HB3 := Lib.hid (HB2.out.trans (hb3.mono HB2.out.size))
        clear hb3 c0 c1 c2
        obtain ⟨c0, c1, c2⟩ := HK.out _ HB3.out
        have HE := Lib.hid hE
        have hge := HGe.out
        clear hE
        by_cases hpl : 0 ≤ idxOf (numQ num) X
        · clear c0 c1 c2
          generalize idxOf (numQ num) X = E at *
          go_wp2_with fail
          refine (caselooks_any w3).mono ?_
          rintro e w2 ⟨rfl, hb2⟩
          go_wp2_with fail
          go_ret
          exact ⟨rfl, HB0.out.trans ((HB3.out.trans (hb2.mono HB3.out.size)).mono HB0.out.size)⟩
        · have hm1 : idxOf (numQ num) X = -1 := by omega
          have HNo := Lib.hid hm1
          rw [hm1]
          clear hpl hm1 hge
          by_cases g9 : (9 : Int) < (X.length : Int)
          · go_wp2_with fail
            refine (caselooks_any w3).mono ?_
            rintro e w2 ⟨rfl, hb2⟩
            go_wp2_with fail
            go_ret
            exact ⟨rfl, HB0.out.trans ((HB3.out.trans (hb2.mono HB3.out.size)).mono HB0.out.size)⟩
          · have h9 : X.length ≤ 9 := by omega
            go_wp2_with fail
            have hd40 : decide ((40 : Int) < (num.size : Int)) = false := decide_eq_false (by omega)
            have hd9 : decide ((9 : Int) < (X.length : Int)) = false := decide_eq_false (by omega)
            simp only [hd40, hd9, Bool.or_false]
            have HOk := Lib.hid (HBl.out True.intro)
            have HKc := Lib.hid (show ∀ w', Below w3.heap.size w3 w' → w'.cell? ⟨w.heap.size, 0, none⟩ = some (.int .i64 no) ∧ w'.cell? ⟨w.heap.size, 1, none⟩ = some (.int .i64 pri) ∧ w'.cell? ⟨w.heap.size, 2, none⟩ = some (.slice A X.length c) from fun V h => HK.out V (HB3.out.trans (h.mono HB3.out.size)))
            have hmk : ∀ w, (Instr.makeSlice 32 (.int .i64 1) (.int .i64 1)).run Tryz.prog w = .ok (.slice (some ⟨w.heap.size, 0, none⟩) 1 1) (w.alloc (.cells #[.int .i64 0, .int .i64 0, .int .i64 0, .int .i64 0, .int .i64 0, .int .i64 0] 26)) := fun w => by kernel_rfl
            clear c0 c1 c2
            refine Code.wp_mono (Q := fun e a' V => ∃ (B g cap bp : Nat) (d' : List Cu), e = .normal ∧ a' = { tmps := #[.agg #[.int .i64 no, .int .i64 pri, .slice A X.length c], .string num, .pointer (some ⟨w.heap.size, 0, none⟩), undef, .bool false, .pointer (some ⟨B, 0, none⟩), .int .i64 0, undef, undef, undef, undef, undef, undef, undef, undef, undef, undef, undef, undef, .agg #[.int .i64 no, .int .i64 pri, .slice A X.length c], .bool true, .bool false, .bool false, .string num, .int .i64 (num.size : Int), .bool false, .bool false, .bool false, .string num, .int .i64 0, .bool false, .bool false, .bool false, .agg #[.int .i64 no, .int .i64 pri, .slice A X.length c], .string num, .int .i64 (-1), .bool false, .bool false, .bool false, .pointer (some ⟨w.heap.size, 2, none⟩), .slice A X.length c, .int .i64 (X.length : Int), .bool false, .bool false, undef, .tuple #[.agg #[.int .i64 no, .int .i64 pri, .slice (some ⟨g, 0, none⟩) (X.length + 1) cap], .int .i64 0], .agg #[.int .i64 no, .int .i64 pri, .slice A X.length c], .string num, .slice (some ⟨bp, 0, none⟩) 1 1, .agg #[.string num, .string ⟨#[]⟩, .slice none 0 0, .slice (some ⟨bp, 0, none⟩) 1 1, .bool false, .bool false, .int .i64 (-1), .string ⟨#[]⟩, .int .i64 0], .tuple #[.agg #[.int .i64 no, .int .i64 pri, .slice (some ⟨g, 0, none⟩) (X.length + 1) cap], .int .i64 0], .agg #[.int .i64 no, .int .i64 pri, .slice (some ⟨g, 0, none⟩) (X.length + 1) cap], .int .i64 0, undef, undef, undef, undef, undef, undef, undef, undef, undef, undef, undef, undef, undef, undef, undef, undef, undef, undef, undef, undef, undef, undef, undef, undef, undef, undef, undef, undef, undef, undef, undef, undef, undef, undef, undef, undef, undef, undef, undef, undef, undef, undef, undef, undef, undef, undef, undef, undef, undef, undef, undef, undef, undef, undef, undef, undef, undef, undef, undef, undef, undef, undef, undef, undef, undef, undef, undef, undef, undef, undef, undef, undef, undef, undef, undef, undef, undef, undef, undef, undef, undef, undef, undef, undef, undef, undef, undef, undef, undef, undef, undef, undef], defers := [] } ∧ RowAt V B #[.int .i64 no, .int .i64 pri, .slice (some ⟨g, 0, none⟩) (X.length + 1) cap] 24 ∧ d'.Perm (X.map CV.c ++ [⟨num, ⟨#[]⟩, none, 0, 0, some ⟨bp, 0, none⟩, 1, 1, false, false, -1, ⟨#[]⟩, 0⟩]) ∧ SegS cfC 0 (X.length + 1) d' ∧ Cells V g (shCu.vs d') ∧ Cells V bp (shTm.vs [tm0]) ∧ Below w3.heap.size w3 V) ?cont ?reg
            case reg =>
              have hB : Below w3.heap.size w3 w3.drew := (Below.refl _ _).drew
              refine wp_region_held_drew (S := fun w' => w'.cell? ⟨w.heap.size, 0, none⟩ = some (.int .i64 no) ∧ w'.cell? ⟨w.heap.size, 1, none⟩ = some (.int .i64 pri) ∧ w'.cell? ⟨w.heap.size, 2, none⟩ = some (.slice A X.length c)) (by kernel_rfl) (HKc.out _ hB) (fun hHeld => ?_)
              refine wpAnyH_take (i := 0) (oi := ?_) (v := ?_) ?_ (by kernel_rfl) (by kernel_rfl) (by kernel_rfl) ?_ (Or.inl ⟨?_, ?_⟩) (by assumption) ?_
              rotate_left 2
              · (simp only [List.getElem?_toArray, List.getElem?_cons_zero]; rfl)
              · exact fun _ _ _ h => by obtain ⟨_, _, _, _, _, h, _⟩ := h; cases h
              · rfl
              · (intro w hSw; (try dsimp only at hSw); go_simp; try with_reducible rfl)
              simp only [Act.put, List.setIfInBounds_toArray, List.set_cons_zero, List.set_cons_succ]
              refine wpAnyH_take (i := 1) (oi := ?_) (v := ?_) ?_ (by kernel_rfl) (by kernel_rfl) (by kernel_rfl) ?_ (Or.inl ⟨?_, ?_⟩) (by assumption) ?_
              rotate_left 2
              · (simp only [List.getElem?_toArray, List.getElem?_cons_succ, List.getElem?_cons_zero]; rfl)
              · exact fun _ _ _ h => by obtain ⟨_, _, _, _, _, h, _⟩ := h; cases h
              · rfl
              · (intro w hSw; (try dsimp only at hSw); go_simp; try with_reducible rfl)
              simp only [Act.put, List.setIfInBounds_toArray, List.set_cons_zero, List.set_cons_succ]
              refine wpAnyH_ready (rs := [2, 8]) (by kernel_rfl) (by simp) ?_
              refine AllReadyH.cons rfl (fun K hK => ?_) (AllReadyH.cons rfl (fun K hK => ?_) (AllReadyH.nil))
              · obtain ⟨U1, hU1⟩ : ∃ U, U = (w3.alloc (.cells #[.int .i64 0, .int .i64 0, .int .i64 0, .int .i64 0, .int .i64 0, .int .i64 0] 26)).drew := ⟨_, rfl⟩
                have hB1 : Below w3.heap.size w3 U1 := by rw [hU1]; exact ((Below.refl _ _).alloc (Nat.le_refl _) _).drew
                have hzU1 : U1.heap.size = w3.heap.size + 1 := by rw [hU1]; exact World.size_alloc w3 _
                have hT1 : Cells U1 w3.heap.size (shTm.vs [tm0]) := by rw [hU1]; exact Cells.fresh w3.drew (shTm.vs [tm0]) _
                go_simp
                rw [← hU1]
                clear hU1
                refine hK.out _ _ (HKc.out _ hB1) (fun hHeld => ?_)
                clear hK K
                try simp only [Act.put, List.setIfInBounds_toArray, List.set_cons_zero, List.set_cons_succ]
                refine wpAnyH_take (i := 3) (oi := ?_) (v := ?_) ?_ (by kernel_rfl) (by kernel_rfl) (by kernel_rfl) ?_ (Or.inl ⟨?_, ?_⟩) (by assumption) ?_
                rotate_left 2
                · (simp only [List.getElem?_toArray, List.getElem?_cons_succ, List.getElem?_cons_zero]; rfl)
                · exact fun _ _ _ h => by obtain ⟨_, _, _, _, _, h, _⟩ := h; cases h
                · rfl
                · (intro w hSw; (try dsimp only at hSw); go_simp; try with_reducible rfl)
                simp only [Act.put, List.setIfInBounds_toArray, List.set_cons_zero, List.set_cons_succ]
                refine wpAnyH_ready (rs := [4, 8]) (by kernel_rfl) (by simp) ?_
                refine AllReadyH.cons rfl (fun K hK => ?_) (AllReadyH.cons rfl (fun K hK => ?_) (AllReadyH.nil))
                · go_simp
                  go_at_call 15
                  refine (nput_any no pri A X.length c X num w3.heap.size U1 ((HX.out.below HB3.out).below hB1) HFs.out HOk.out h9 HSz.out HE.out (In_of_cells hT1) HNo.out).mono ?_
                  rintro e w8 ⟨g, cap, d', rfl, hp, hs, hc8, hge, hb8⟩
                  have hB8 := hB1.trans (hb8.mono hB1.size)
                  have hT8 := hT1.below hb8 hT1.1
                  go_wp2_with fail
                  refine hK.out _ _ (HKc.out _ hB8) (fun hHeld => ?_)
                  clear hK K
                  try simp only [Act.put, List.setIfInBounds_toArray, List.set_cons_zero, List.set_cons_succ]
                  refine wpAnyH_take (i := 5) (oi := ?_) (v := ?_) ?_ (by kernel_rfl) (by kernel_rfl) (by kernel_rfl) ?_ (Or.inl ⟨?_, ?_⟩) (by assumption) ?_
                  rotate_left 2
                  · (simp only [List.getElem?_toArray, List.getElem?_cons_succ, List.getElem?_cons_zero]; rfl)
                  · exact fun _ _ _ h => by obtain ⟨_, _, _, _, _, h, _⟩ := h; cases h
                  · rfl
                  · (intro w hSw; (try dsimp only at hSw); go_simp; try with_reducible rfl)
                  simp only [Act.put, List.setIfInBounds_toArray, List.set_cons_zero, List.set_cons_succ]
                  refine wpAnyH_take (i := 6) (oi := ?_) (v := ?_) ?_ (by kernel_rfl) (by kernel_rfl) (by kernel_rfl) ?_ (Or.inl ⟨?_, ?_⟩) (by assumption) ?_
                  rotate_left 2
                  · (simp only [List.getElem?_toArray, List.getElem?_cons_succ, List.getElem?_cons_zero]; rfl)
                  · exact fun _ _ _ h => by obtain ⟨_, _, _, _, _, h, _⟩ := h; cases h
                  · rfl
                  · (intro w hSw; (try dsimp only at hSw); go_simp; try with_reducible rfl)
                  simp only [Act.put, List.setIfInBounds_toArray, List.set_cons_zero, List.set_cons_succ]
                  refine wpAnyH_take (i := 7) (oi := ?_) (v := ?_) ?_ (by kernel_rfl) (by kernel_rfl) (by kernel_rfl) ?_ (Or.inl ⟨?_, ?_⟩) (by assumption) ?_
                  rotate_left 2
                  · (simp only [List.getElem?_toArray, List.getElem?_cons_succ, List.getElem?_cons_zero]; rfl)
                  · exact fun _ _ _ h => by obtain ⟨_, _, _, _, _, h, _⟩ := h; cases h
                  · rfl
                  · (intro w hSw; (try dsimp only at hSw); go_simp; try with_reducible rfl)
                  simp only [Act.put, List.setIfInBounds_toArray, List.set_cons_zero, List.set_cons_succ]
                  refine wpAnyH_ready (rs := [8]) (by kernel_rfl) (by simp) ?_
                  refine AllReadyH.cons rfl (fun K hK => ?_) (AllReadyH.nil)
                  obtain ⟨U2, hU2⟩ : ∃ U, U = (w8.alloc (.cells #[.int .i64 0, .int .i64 0, .slice none 0 0] 24)) := ⟨_, rfl⟩
                  have hqU2 : Below w8.heap.size w8 U2 := by rw [hU2]; exact (Below.refl _ _).alloc (Nat.le_refl _) _
                  have hB9 : Below w3.heap.size w3 U2 := hB8.trans (hqU2.mono hB8.size)
                  have hzU2 : U2.heap.size = w8.heap.size + 1 := by rw [hU2]; exact World.size_alloc w8 _
                  have hR2 : RowAt U2 w8.heap.size #[.int .i64 0, .int .i64 0, .slice none 0 0] 24 := by rw [hU2]; exact RowAt.fresh w8 _ _
                  have hc9 := hc8.below hqU2 hc8.1
                  have hT9 := hT8.below hqU2 hT8.1
                  have hg8 := hc8.1
                  have hz3 := hT1.1
                  have hz4 := hb8.size
                  go_simp
                  rw [← hU2]
                  clear hU2
                  refine hK.out _ _ (HKc.out _ hB9) (fun hHeld => ?_)
                  clear hK K
                  try simp only [Act.put, List.setIfInBounds_toArray, List.set_cons_zero, List.set_cons_succ]
                  refine wpAnyH_ready (rs := [9]) (by kernel_rfl) (by simp) ?_
                  refine AllReadyH.cons rfl (fun K hK => ?_) (AllReadyH.nil)
                  have f0 := hR2.fr 0
                  have r0 := hR2.cell (j := 0) (u := .int .i64 0) rfl
                  have f1 := hR2.fr 1
                  have r1 := hR2.cell (j := 1) (u := .int .i64 0) rfl
                  have f2 := hR2.fr 2
                  have r2 := hR2.cell (j := 2) (u := .slice none 0 0) rfl
                  have nT : w8.heap.size ≠ w3.heap.size := by omega
                  have nG : w8.heap.size ≠ g := by omega
                  have hle : w3.heap.size ≤ w8.heap.size := by omega
                  have hRf : RowAt (((U2.setCell ⟨w8.heap.size, 0, none⟩ (.int .i64 no)).setCell ⟨w8.heap.size, 1, none⟩ (.int .i64 pri)).setCell ⟨w8.heap.size, 2, none⟩ (.slice (some ⟨g, 0, none⟩) (X.length + 1) cap)) w8.heap.size #[.int .i64 no, .int .i64 pri, .slice (some ⟨g, 0, none⟩) (X.length + 1) cap] 24 := ((hR2.set 0 (.int .i64 no)).set 1 (.int .i64 pri)).set 2 (.slice (some ⟨g, 0, none⟩) (X.length + 1) cap)
                  have hCf : Cells (((U2.setCell ⟨w8.heap.size, 0, none⟩ (.int .i64 no)).setCell ⟨w8.heap.size, 1, none⟩ (.int .i64 pri)).setCell ⟨w8.heap.size, 2, none⟩ (.slice (some ⟨g, 0, none⟩) (X.length + 1) cap)) g (shCu.vs d') := ((hc9.far 0 _ nG).far 1 _ nG).far 2 _ nG
                  have hTf : Cells (((U2.setCell ⟨w8.heap.size, 0, none⟩ (.int .i64 no)).setCell ⟨w8.heap.size, 1, none⟩ (.int .i64 pri)).setCell ⟨w8.heap.size, 2, none⟩ (.slice (some ⟨g, 0, none⟩) (X.length + 1) cap)) w3.heap.size (shTm.vs [tm0]) := ((hT9.far 0 _ nT).far 1 _ nT).far 2 _ nT
                  have hBf := ((hB9.setCell (p := ⟨w8.heap.size, 0, none⟩) hle (.int .i64 no)).setCell (p := ⟨w8.heap.size, 1, none⟩) hle (.int .i64 pri)).setCell (p := ⟨w8.heap.size, 2, none⟩) hle (.slice (some ⟨g, 0, none⟩) (X.length + 1) cap)
                  have HF := Lib.hid (And.intro hRf (And.intro hCf (And.intro hTf hBf)))
                  clear hRf hCf hTf hBf
                  go_simp
                  refine hK.out _ _ (HKc.out _ HF.out.2.2.2) (fun hHeld => ?_)
                  clear hK K
                  try simp only [Act.put, List.setIfInBounds_toArray, List.set_cons_zero, List.set_cons_succ]
                  refine wpAnyH_take (i := 10) (oi := ?_) (v := ?_) ?_ (by kernel_rfl) (by kernel_rfl) (by kernel_rfl) ?_ (Or.inl ⟨?_, ?_⟩) (by assumption) ?_
                  rotate_left 2
                  · (simp only [List.getElem?_toArray, List.getElem?_cons_succ, List.getElem?_cons_zero]; rfl)
                  · exact fun _ _ _ h => by obtain ⟨_, _, _, _, _, h, _⟩ := h; cases h
                  · rfl
                  · (intro w hSw; (try dsimp only at hSw); go_simp; try with_reducible rfl)
                  simp only [Act.put]
                  refine wpAnyH_done (by kernel_rfl) ?_ _
                  exact ⟨w8.heap.size, g, cap, w3.heap.size, d', rfl, rfl, HF.out.1, hp, hs, HF.out.2.1, HF.out.2.2.1, HF.out.2.2.2⟩
                · obtain ⟨U2, hU2⟩ : ∃ U, U = (U1.alloc (.cells #[.int .i64 0, .int .i64 0, .slice none 0 0] 24)) := ⟨_, rfl⟩
                  have hqU2 : Below U1.heap.size U1 U2 := by rw [hU2]; exact (Below.refl _ _).alloc (Nat.le_refl _) _
                  have hB2 : Below w3.heap.size w3 U2 := hB1.trans (hqU2.mono hB1.size)
                  have hzU2 : U2.heap.size = U1.heap.size + 1 := by rw [hU2]; exact World.size_alloc U1 _
                  have hR2 : RowAt U2 U1.heap.size #[.int .i64 0, .int .i64 0, .slice none 0 0] 24 := by rw [hU2]; exact RowAt.fresh U1 _ _
                  have hT2 := hT1.below hqU2 hT1.1
                  rw [hzU1] at hR2
                  go_simp
                  rw [← hU2]
                  clear hU2
                  refine hK.out _ _ (HKc.out _ hB2) (fun hHeld => ?_)
                  clear hK K
                  try simp only [Act.put, List.setIfInBounds_toArray, List.set_cons_zero, List.set_cons_succ]
                  refine wpAnyH_ready (rs := [4]) (by kernel_rfl) (by simp) ?_
                  refine AllReadyH.cons rfl (fun K hK => ?_) (AllReadyH.nil)
                  go_simp
                  go_at_call 15
                  refine (nput_any no pri A X.length c X num w3.heap.size U2 ((HX.out.below HB3.out).below hB2) HFs.out HOk.out h9 HSz.out HE.out (In_of_cells hT2) HNo.out).mono ?_
                  rintro e w8 ⟨g, cap, d', rfl, hp, hs, hc8, hge, hb8⟩
                  have hB8 := hB2.trans (hb8.mono hB2.size)
                  have hT8 := hT2.below hb8 hT2.1
                  go_wp2_with fail
                  refine hK.out _ _ (HKc.out _ hB8) (fun hHeld => ?_)
                  clear hK K
                  try simp only [Act.put, List.setIfInBounds_toArray, List.set_cons_zero, List.set_cons_succ]
                  refine wpAnyH_take (i := 5) (oi := ?_) (v := ?_) ?_ (by kernel_rfl) (by kernel_rfl) (by kernel_rfl) ?_ (Or.inl ⟨?_, ?_⟩) (by assumption) ?_
                  rotate_left 2
                  · (simp only [List.getElem?_toArray, List.getElem?_cons_succ, List.getElem?_cons_zero]; rfl)
                  · exact fun _ _ _ h => by obtain ⟨_, _, _, _, _, h, _⟩ := h; cases h
                  · rfl
                  · (intro w hSw; (try dsimp only at hSw); go_simp; try with_reducible rfl)
                  simp only [Act.put, List.setIfInBounds_toArray, List.set_cons_zero, List.set_cons_succ]
                  refine wpAnyH_take (i := 6) (oi := ?_) (v := ?_) ?_ (by kernel_rfl) (by kernel_rfl) (by kernel_rfl) ?_ (Or.inl ⟨?_, ?_⟩) (by assumption) ?_
                  rotate_left 2
                  · (simp only [List.getElem?_toArray, List.getElem?_cons_succ, List.getElem?_cons_zero]; rfl)
                  · exact fun _ _ _ h => by obtain ⟨_, _, _, _, _, h, _⟩ := h; cases h
                  · rfl
                  · (intro w hSw; (try dsimp only at hSw); go_simp; try with_reducible rfl)
                  simp only [Act.put, List.setIfInBounds_toArray, List.set_cons_zero, List.set_cons_succ]
                  refine wpAnyH_take (i := 7) (oi := ?_) (v := ?_) ?_ (by kernel_rfl) (by kernel_rfl) (by kernel_rfl) ?_ (Or.inl ⟨?_, ?_⟩) (by assumption) ?_
                  rotate_left 2
                  · (simp only [List.getElem?_toArray, List.getElem?_cons_succ, List.getElem?_cons_zero]; rfl)
                  · exact fun _ _ _ h => by obtain ⟨_, _, _, _, _, h, _⟩ := h; cases h
                  · rfl
                  · (intro w hSw; (try dsimp only at hSw); go_simp; try with_reducible rfl)
                  simp only [Act.put, List.setIfInBounds_toArray, List.set_cons_zero, List.set_cons_succ]
                  have hR8 := hR2.below hb8 hR2.lt
                  have hz5 := hb8.size
                  refine wpAnyH_ready (rs := [9]) (by kernel_rfl) (by simp) ?_
                  refine AllReadyH.cons rfl (fun K hK => ?_) (AllReadyH.nil)
                  have f0 := hR8.fr 0
                  have r0 := hR8.cell (j := 0) (u := .int .i64 0) rfl
                  have f1 := hR8.fr 1
                  have r1 := hR8.cell (j := 1) (u := .int .i64 0) rfl
                  have f2 := hR8.fr 2
                  have r2 := hR8.cell (j := 2) (u := .slice none 0 0) rfl
                  have nT : (w3.heap.size + 1) ≠ w3.heap.size := by omega
                  have nG : (w3.heap.size + 1) ≠ g := by omega
                  have hle : w3.heap.size ≤ (w3.heap.size + 1) := by omega
                  have hRf : RowAt (((w8.setCell ⟨(w3.heap.size + 1), 0, none⟩ (.int .i64 no)).setCell ⟨(w3.heap.size + 1), 1, none⟩ (.int .i64 pri)).setCell ⟨(w3.heap.size + 1), 2, none⟩ (.slice (some ⟨g, 0, none⟩) (X.length + 1) cap)) (w3.heap.size + 1) #[.int .i64 no, .int .i64 pri, .slice (some ⟨g, 0, none⟩) (X.length + 1) cap] 24 := ((hR8.set 0 (.int .i64 no)).set 1 (.int .i64 pri)).set 2 (.slice (some ⟨g, 0, none⟩) (X.length + 1) cap)
                  have hCf : Cells (((w8.setCell ⟨(w3.heap.size + 1), 0, none⟩ (.int .i64 no)).setCell ⟨(w3.heap.size + 1), 1, none⟩ (.int .i64 pri)).setCell ⟨(w3.heap.size + 1), 2, none⟩ (.slice (some ⟨g, 0, none⟩) (X.length + 1) cap)) g (shCu.vs d') := ((hc8.far 0 _ nG).far 1 _ nG).far 2 _ nG
                  have hTf : Cells (((w8.setCell ⟨(w3.heap.size + 1), 0, none⟩ (.int .i64 no)).setCell ⟨(w3.heap.size + 1), 1, none⟩ (.int .i64 pri)).setCell ⟨(w3.heap.size + 1), 2, none⟩ (.slice (some ⟨g, 0, none⟩) (X.length + 1) cap)) w3.heap.size (shTm.vs [tm0]) := ((hT8.far 0 _ nT).far 1 _ nT).far 2 _ nT
                  have hBf := ((hB8.setCell (p := ⟨(w3.heap.size + 1), 0, none⟩) hle (.int .i64 no)).setCell (p := ⟨(w3.heap.size + 1), 1, none⟩) hle (.int .i64 pri)).setCell (p := ⟨(w3.heap.size + 1), 2, none⟩) hle (.slice (some ⟨g, 0, none⟩) (X.length + 1) cap)
                  have HF := Lib.hid (And.intro hRf (And.intro hCf (And.intro hTf hBf)))
                  clear hRf hCf hTf hBf
                  go_simp
                  refine hK.out _ _ (HKc.out _ HF.out.2.2.2) (fun hHeld => ?_)
                  clear hK K
                  try simp only [Act.put, List.setIfInBounds_toArray, List.set_cons_zero, List.set_cons_succ]
                  refine wpAnyH_take (i := 10) (oi := ?_) (v := ?_) ?_ (by kernel_rfl) (by kernel_rfl) (by kernel_rfl) ?_ (Or.inl ⟨?_, ?_⟩) (by assumption) ?_
                  rotate_left 2
                  · (simp only [List.getElem?_toArray, List.getElem?_cons_succ, List.getElem?_cons_zero]; rfl)
                  · exact fun _ _ _ h => by obtain ⟨_, _, _, _, _, h, _⟩ := h; cases h
                  · rfl
                  · (intro w hSw; (try dsimp only at hSw); go_simp; try with_reducible rfl)
                  simp only [Act.put]
                  refine wpAnyH_done (by kernel_rfl) ?_ _
                  exact ⟨(w3.heap.size + 1), g, cap, w3.heap.size, d', rfl, rfl, HF.out.1, hp, hs, HF.out.2.1, HF.out.2.2.1, HF.out.2.2.2⟩
              · obtain ⟨U1, hU1⟩ : ∃ U, U = (w3.alloc (.cells #[.int .i64 0, .int .i64 0, .slice none 0 0] 24)).drew := ⟨_, rfl⟩
                have hB1 : Below w3.heap.size w3 U1 := by rw [hU1]; exact ((Below.refl _ _).alloc (Nat.le_refl _) _).drew
                have hzU1 : U1.heap.size = w3.heap.size + 1 := by rw [hU1]; exact World.size_alloc w3 _
                have hR1 : RowAt U1 w3.heap.size #[.int .i64 0, .int .i64 0, .slice none 0 0] 24 := by rw [hU1]; exact RowAt.fresh w3.drew _ _
                go_simp
                rw [← hU1]
                clear hU1
                refine hK.out _ _ (HKc.out _ hB1) (fun hHeld => ?_)
                clear hK K
                try simp only [Act.put, List.setIfInBounds_toArray, List.set_cons_zero, List.set_cons_succ]
                refine wpAnyH_ready (rs := [2]) (by kernel_rfl) (by simp) ?_
                refine AllReadyH.cons rfl (fun K hK => ?_) (AllReadyH.nil)
                obtain ⟨U2, hU2⟩ : ∃ U, U = (U1.alloc (.cells #[.int .i64 0, .int .i64 0, .int .i64 0, .int .i64 0, .int .i64 0, .int .i64 0] 26)) := ⟨_, rfl⟩
                have hqU2 : Below U1.heap.size U1 U2 := by rw [hU2]; exact (Below.refl _ _).alloc (Nat.le_refl _) _
                have hB2 : Below w3.heap.size w3 U2 := hB1.trans (hqU2.mono hB1.size)
                have hzU2 : U2.heap.size = U1.heap.size + 1 := by rw [hU2]; exact World.size_alloc U1 _
                have hT2 : Cells U2 U1.heap.size (shTm.vs [tm0]) := by rw [hU2]; exact Cells.fresh U1 (shTm.vs [tm0]) _
                have hR2 := hR1.below hqU2 hR1.lt
                rw [hzU1] at hT2
                go_simp
                rw [← hU2]
                clear hU2
                refine hK.out _ _ (HKc.out _ hB2) (fun hHeld => ?_)
                clear hK K
                try simp only [Act.put, List.setIfInBounds_toArray, List.set_cons_zero, List.set_cons_succ]
                refine wpAnyH_take (i := 3) (oi := ?_) (v := ?_) ?_ (by kernel_rfl) (by kernel_rfl) (by kernel_rfl) ?_ (Or.inl ⟨?_, ?_⟩) (by assumption) ?_
                rotate_left 2
                · (simp only [List.getElem?_toArray, List.getElem?_cons_succ, List.getElem?_cons_zero]; rfl)
                · exact fun _ _ _ h => by obtain ⟨_, _, _, _, _, h, _⟩ := h; cases h
                · rfl
                · (intro w hSw; (try dsimp only at hSw); go_simp; try with_reducible rfl)
                simp only [Act.put, List.setIfInBounds_toArray, List.set_cons_zero, List.set_cons_succ]
                refine wpAnyH_ready (rs := [4]) (by kernel_rfl) (by simp) ?_
                refine AllReadyH.cons rfl (fun K hK => ?_) (AllReadyH.nil)
                go_simp
                go_at_call 15
                refine (nput_any no pri A X.length c X num (w3.heap.size + 1) U2 ((HX.out.below HB3.out).below hB2) HFs.out HOk.out h9 HSz.out HE.out (In_of_cells hT2) HNo.out).mono ?_
                rintro e w8 ⟨g, cap, d', rfl, hp, hs, hc8, hge, hb8⟩
                have hB8 := hB2.trans (hb8.mono hB2.size)
                have hT8 := hT2.below hb8 hT2.1
                go_wp2_with fail
                refine hK.out _ _ (HKc.out _ hB8) (fun hHeld => ?_)
                clear hK K
                try simp only [Act.put, List.setIfInBounds_toArray, List.set_cons_zero, List.set_cons_succ]
                refine wpAnyH_take (i := 5) (oi := ?_) (v := ?_) ?_ (by kernel_rfl) (by kernel_rfl) (by kernel_rfl) ?_ (Or.inl ⟨?_, ?_⟩) (by assumption) ?_
                rotate_left 2
                · (simp only [List.getElem?_toArray, List.getElem?_cons_succ, List.getElem?_cons_zero]; rfl)
                · exact fun _ _ _ h => by obtain ⟨_, _, _, _, _, h, _⟩ := h; cases h
                · rfl
                · (intro w hSw; (try dsimp only at hSw); go_simp; try with_reducible rfl)
                simp only [Act.put, List.setIfInBounds_toArray, List.set_cons_zero, List.set_cons_succ]
                refine wpAnyH_take (i := 6) (oi := ?_) (v := ?_) ?_ (by kernel_rfl) (by kernel_rfl) (by kernel_rfl) ?_ (Or.inl ⟨?_, ?_⟩) (by assumption) ?_
                rotate_left 2
                · (simp only [List.getElem?_toArray, List.getElem?_cons_succ, List.getElem?_cons_zero]; rfl)
                · exact fun _ _ _ h => by obtain ⟨_, _, _, _, _, h, _⟩ := h; cases h
                · rfl
                · (intro w hSw; (try dsimp only at hSw); go_simp; try with_reducible rfl)
                simp only [Act.put, List.setIfInBounds_toArray, List.set_cons_zero, List.set_cons_succ]
                refine wpAnyH_take (i := 7) (oi := ?_) (v := ?_) ?_ (by kernel_rfl) (by kernel_rfl) (by kernel_rfl) ?_ (Or.inl ⟨?_, ?_⟩) (by assumption) ?_
                rotate_left 2
                · (simp only [List.getElem?_toArray, List.getElem?_cons_succ, List.getElem?_cons_zero]; rfl)
                · exact fun _ _ _ h => by obtain ⟨_, _, _, _, _, h, _⟩ := h; cases h
                · rfl
                · (intro w hSw; (try dsimp only at hSw); go_simp; try with_reducible rfl)
                simp only [Act.put, List.setIfInBounds_toArray, List.set_cons_zero, List.set_cons_succ]
                have hR8 := hR2.below hb8 hR2.lt
                have hz5 := hb8.size
                refine wpAnyH_ready (rs := [9]) (by kernel_rfl) (by simp) ?_
                refine AllReadyH.cons rfl (fun K hK => ?_) (AllReadyH.nil)
                have f0 := hR8.fr 0
                have r0 := hR8.cell (j := 0) (u := .int .i64 0) rfl
                have f1 := hR8.fr 1
                have r1 := hR8.cell (j := 1) (u := .int .i64 0) rfl
                have f2 := hR8.fr 2
                have r2 := hR8.cell (j := 2) (u := .slice none 0 0) rfl
                have nT : w3.heap.size ≠ (w3.heap.size + 1) := by omega
                have nG : w3.heap.size ≠ g := by omega
                have hle : w3.heap.size ≤ w3.heap.size := by omega
                have hRf : RowAt (((w8.setCell ⟨w3.heap.size, 0, none⟩ (.int .i64 no)).setCell ⟨w3.heap.size, 1, none⟩ (.int .i64 pri)).setCell ⟨w3.heap.size, 2, none⟩ (.slice (some ⟨g, 0, none⟩) (X.length + 1) cap)) w3.heap.size #[.int .i64 no, .int .i64 pri, .slice (some ⟨g, 0, none⟩) (X.length + 1) cap] 24 := ((hR8.set 0 (.int .i64 no)).set 1 (.int .i64 pri)).set 2 (.slice (some ⟨g, 0, none⟩) (X.length + 1) cap)
                have hCf : Cells (((w8.setCell ⟨w3.heap.size, 0, none⟩ (.int .i64 no)).setCell ⟨w3.heap.size, 1, none⟩ (.int .i64 pri)).setCell ⟨w3.heap.size, 2, none⟩ (.slice (some ⟨g, 0, none⟩) (X.length + 1) cap)) g (shCu.vs d') := ((hc8.far 0 _ nG).far 1 _ nG).far 2 _ nG
                have hTf : Cells (((w8.setCell ⟨w3.heap.size, 0, none⟩ (.int .i64 no)).setCell ⟨w3.heap.size, 1, none⟩ (.int .i64 pri)).setCell ⟨w3.heap.size, 2, none⟩ (.slice (some ⟨g, 0, none⟩) (X.length + 1) cap)) (w3.heap.size + 1) (shTm.vs [tm0]) := ((hT8.far 0 _ nT).far 1 _ nT).far 2 _ nT
                have hBf := ((hB8.setCell (p := ⟨w3.heap.size, 0, none⟩) hle (.int .i64 no)).setCell (p := ⟨w3.heap.size, 1, none⟩) hle (.int .i64 pri)).setCell (p := ⟨w3.heap.size, 2, none⟩) hle (.slice (some ⟨g, 0, none⟩) (X.length + 1) cap)
                have HF := Lib.hid (And.intro hRf (And.intro hCf (And.intro hTf hBf)))
                clear hRf hCf hTf hBf
                go_simp
                refine hK.out _ _ (HKc.out _ HF.out.2.2.2) (fun hHeld => ?_)
                clear hK K
                try simp only [Act.put, List.setIfInBounds_toArray, List.set_cons_zero, List.set_cons_succ]
                refine wpAnyH_take (i := 10) (oi := ?_) (v := ?_) ?_ (by kernel_rfl) (by kernel_rfl) (by kernel_rfl) ?_ (Or.inl ⟨?_, ?_⟩) (by assumption) ?_
                rotate_left 2
                · (simp only [List.getElem?_toArray, List.getElem?_cons_succ, List.getElem?_cons_zero]; rfl)
                · exact fun _ _ _ h => by obtain ⟨_, _, _, _, _, h, _⟩ := h; cases h
                · rfl
                · (intro w hSw; (try dsimp only at hSw); go_simp; try with_reducible rfl)
                simp only [Act.put]
                refine wpAnyH_done (by kernel_rfl) ?_ _
                exact ⟨w3.heap.size, g, cap, (w3.heap.size + 1), d', rfl, rfl, HF.out.1, hp, hs, HF.out.2.1, HF.out.2.2.1, HF.out.2.2.2⟩
            case cont =>
              rintro e a' V ⟨B, g, cap, bp, d', rfl, rfl, hR, hp, hs, hc, hT, hb⟩
              obtain ⟨P, Q, hI⟩ := ins_p (bp := bp) HOk.out h9 HE.out HNo.out hp hs
              have hlX : (P ++ nwC num bp :: Q).length = X.length + 1 := by rw [hI.x]; simp; omega
              have hBV := HB3.out.trans (hb.mono HB3.out.size)
              have hXV := HX.out.below hBV
              have hX' := hI.inC hXV (In_of_cells hT) hc
              rw [hlX] at hX'
              have hft := hI.fit HFs.out HSz.out
              have HLo := Lib.hid (fun U (h : Below V.heap.size V U) k (hk : k < X.length) => ntLook_any no pri A X.length c X X[k].c.num U (hXV.below h) HFs.out HOk.out (HFs.out _ (List.getElem_mem hk)).1 (HOk.out.ok _ (List.getElem_mem hk)).num k (idx_up HOk.out.up hk))
              have HLn := Lib.hid (show ∀ U (_ : Below V.heap.size V U) k (hk : k < X.length), Calls Tryz.prog 16 #[.agg #[.int .i64 no, .int .i64 pri, .slice (some ⟨g, 0, none⟩) (X.length + 1) cap], .string X[k].c.num] U fun e w' => ∃ r, e = .returned (.tuple #[r, .int .i64 0]) ∧ shEn.Out 62 (lkS (X.map CV.sk) (k + 1)) U r w' from fun U h k hk => by
                obtain ⟨k', h1, h2⟩ := hI.lk_old hk
                have h3 := ntLook_any no pri (some ⟨g, 0, none⟩) (X.length + 1) cap (P ++ nwC num bp :: Q) X[k].c.num U (hX'.below h) hft hI.ok (HFs.out _ (List.getElem_mem hk)).1 (HOk.out.ok _ (List.getElem_mem hk)).num k' h1
                rw [h2] at h3
                exact h3)
              have HLw := Lib.hid (show ∀ U (_ : Below V.heap.size V U), Calls Tryz.prog 16 #[.agg #[.int .i64 no, .int .i64 pri, .slice (some ⟨g, 0, none⟩) (X.length + 1) cap], .string num] U fun e w' => ∃ r, e = .returned (.tuple #[r, .int .i64 0]) ∧ shEn.Out 62 (lkS (X.map CV.sk) P.length) U r w' from fun U h => by
                have h3 := ntLook_any no pri (some ⟨g, 0, none⟩) (X.length + 1) cap (P ++ nwC num bp :: Q) num U (hX'.below h) hft hI.ok HSz.out HE.out P.length hI.new
                rw [hI.lk_new] at h3
                exact h3)
              have HSt := Lib.hid (fun U (h : Below V.heap.size V U) => nsteps_any no pri (some ⟨g, 0, none⟩) (X.length + 1) cap (P ++ nwC num bp :: Q) num U (hX'.below h) hft hI.ok HSz.out HE.out P.length hI.new hI.lk_same)
              have HBe := Lib.hid (fun U (h : Below V.heap.size V U) => nbefore_any no pri A c X num U (hXV.below h) HFs.out HOk.out HSz.out HE.out (by omega))
              have HKo := Lib.hid (show ∀ U, Below V.heap.size V U → U.cell? ⟨w.heap.size, 0, none⟩ = some (.int .i64 no) ∧ U.cell? ⟨w.heap.size, 1, none⟩ = some (.int .i64 pri) ∧ U.cell? ⟨w.heap.size, 2, none⟩ = some (.slice A X.length c) ∧ U.cell? ⟨B, 0, none⟩ = some (.int .i64 no) ∧ U.cell? ⟨B, 1, none⟩ = some (.int .i64 pri) ∧ U.cell? ⟨B, 2, none⟩ = some (.slice (some ⟨g, 0, none⟩) (X.length + 1) cap) from fun U h => by
                obtain ⟨d0, d1, d2⟩ := HKc.out U (hb.trans (h.mono hb.size))
                have hR2 := hR.below h hR.lt
                exact ⟨d0, d1, d2, hR2.cell rfl, hR2.cell rfl, hR2.cell rfl⟩)
              have HLast := Lib.hid (fun k (hk : k < X.length) h1 h2 => hI.last hk h1 h2)
              have HFirst := Lib.hid (fun h => hI.first h)
              have HFw := Lib.hid (fun k => lk_few HOk.out k)
              have HXV := Lib.hid hXV
              have HBV := Lib.hid (HB0.out.trans (hBV.mono HB0.out.size))
              have hr0 := (HKo.out _ (Below.refl _ _)).2.2.1
              clear hlX hBV hXV hX' hft hI hp hs hc hT hb hR hmk
              go_wp2_with fail
              clear hr0
              go_loopw [58] (fun iv wr => ∃ i : Nat, i ≤ X.length ∧ iv = .int .i64 i ∧ Below V.heap.size V wr) (fun iv _ => X.length - (intOf iv).toNat)
              case atStart => exact ⟨0, Nat.zero_le _, rfl, Below.refl _ _⟩
              case round =>
                obtain ⟨i, hi, rfl, hB⟩ := hrel
                by_cases hlt : i < X.length
                · obtain ⟨b, o, rfl, hbl, hcell⟩ := cu_at (HXV.out.below hB) (by omega)
                  have hck := hcell i hlt
                  have i0 : (0 : Int) ≤ (i : Int) := by omega
                  have i1 : (i : Int) < (X.length : Int) := by omega
                  have v0 : IntKind.i64.wrap ((i : Int) + 1) = (i : Int) + 1 := IntWalk.i64_in _ (by omega)
                  have HLoi := Lib.hid (fun U (h : Below V.heap.size V U) => HLo.out U h i hlt)
                  have HLni := Lib.hid (fun U (h : Below V.heap.size V U) => HLn.out U h i hlt)
                  clear HLo HLn
                  generalize X[i] = x at *
                  obtain ⟨⟨nm, lab, MA, mn, mc, PA, pn, pc, blk, mrk, fol, lnk, lps⟩, ms, ts⟩ := x
                  obtain ⟨q0, q1, q2, q3, q4, q5, q6, q7, q8⟩ := hck
                  dsimp only at q0 q1 q2 q3 q4 q5 q6 q7 q8 HLoi HLni
                  obtain ⟨wa, hwa⟩ : ∃ wa, wa = wr.alloc (.cells #[.string nm, .string lab, .slice MA mn mc, .slice PA pn pc, .bool blk, .bool mrk, .int .i64 fol, .string lnk, .int .i64 lps] 34) := ⟨_, rfl⟩
                  have hba : Below wr.heap.size wr wa := by rw [hwa]; exact (Below.refl _ _).alloc (Nat.le_refl _) _
                  have hRa : RowAt wa wr.heap.size #[.string nm, .string lab, .slice MA mn mc, .slice PA pn pc, .bool blk, .bool mrk, .int .i64 fol, .string lnk, .int .i64 lps] 34 := by rw [hwa]; exact RowAt.fresh wr _ _
                  have HBa := Lib.hid (hB.trans (hba.mono hB.size))
                  have HRa := Lib.hid hRa
                  have HBr := Lib.hid hB
                  have HWa := Lib.hid hwa
                  obtain ⟨c0, c1, c2, -⟩ := HKo.out _ HBa.out
                  have n0 := hRa.cell (j := 0) (u := .string nm) rfl
                  rw [hwa] at c0 c1 c2 n0
                  clear hcell hbl hba hRa hB hwa
                  go_wp2_with fail
                  rw [← HWa.out]
                  refine (HLoi.out _ HBa.out).mono ?_
                  rintro e w5 ⟨r1, rfl, A1, k1, rfl, ho1, hb5⟩
                  clear c0 c1 c2 n0 q0 q1 q2 q3 q4 q5 q6 q7 q8
                  have HB5 := Lib.hid (HBa.out.trans (hb5.mono HBa.out.size))
                  obtain ⟨-, -, -, c0, c1, c2⟩ := HKo.out _ HB5.out
                  have n0 := (HRa.out.below hb5 HRa.out.lt).cell (j := 0) (u := .string nm) rfl
                  have HI1 := Lib.hid (Sh.In.of_own (S := shEn) ho1 rfl)
                  clear ho1 hb5
                  go_wp2_with fail
                  refine (HLni.out _ HB5.out).mono ?_
                  rintro e w6 ⟨r2, rfl, A2, k2, rfl, ho2, hb6⟩
                  have HB6 := Lib.hid (HB5.out.trans (hb6.mono HB5.out.size))
                  have HSe := Lib.hid (rsamee_any A1 _ k1 A2 _ k2 _ w6 (HI1.out.below hb6) (Sh.In.of_own (S := shEn) ho2 rfl) (by have := HFw.out (i + 1); omega))
                  clear c0 c1 c2 n0 ho2 hb6
                  go_wp2_with fail
                  refine HSe.out.mono ?_
                  rintro e w7 ⟨rfl, hb7⟩
                  have HB7 := Lib.hid (HB6.out.trans (hb7.mono HB6.out.size))
                  clear hb7
                  go_wp2_with fail
                  go_roundw
                  case rel => exact ⟨i + 1, hlt, by go_num, HB7.out⟩
                  case measure => simp [intOf]; omega
                · obtain rfl : i = X.length := by omega
                  obtain ⟨-, -, -, c0, c1, c2⟩ := HKo.out _ hB
                  have HBr := Lib.hid hB
                  clear hB
                  go_wp2_with fail
                  refine (HLw.out _ HBr.out).mono ?_
                  rintro e w5 ⟨r1, rfl, A1, k1, rfl, ho1, hb5⟩
                  clear c0 c1 c2
                  have HB5 := Lib.hid (HBr.out.trans (hb5.mono HBr.out.size))
                  have HI1 := Lib.hid (Sh.In.of_own (S := shEn) ho1 rfl)
                  obtain ⟨-, -, -, c0, c1, c2⟩ := HKo.out _ HB5.out
                  clear ho1 hb5
                  go_wp2_with fail
                  refine (HSt.out _ HB5.out).mono ?_
                  rintro e w6 ⟨rfl, hb6⟩
                  clear c0 c1 c2
                  have HB6 := Lib.hid (HB5.out.trans (hb6.mono HB5.out.size))
                  have HI2 := Lib.hid (HI1.out.below hb6)
                  obtain ⟨c0, c1, c2, -⟩ := HKo.out _ HB6.out
                  clear hb6
                  go_wp2_with fail
                  refine (HBe.out _ HB6.out).mono ?_
                  rintro e w7 ⟨hcase, hb7⟩
                  clear c0 c1 c2
                  have HB7 := Lib.hid (HB6.out.trans (hb7.mono HB6.out.size))
                  have HI3 := Lib.hid (HI2.out.below hb7)
                  clear hb7
                  rcases hcase with ⟨k, hk, ht, hno, rfl⟩ | ⟨hno, rfl⟩
                  · have hkP := HLast.out k hk ht hno
                    have hLk := HLo.out w7 HB7.out k hk
                    rw [hkP] at hLk
                    rw [cvB_at hk]
                    generalize X[k].c.num = nk at *
                    have HLk := Lib.hid hLk
                    obtain ⟨c0, c1, c2, -⟩ := HKo.out _ HB7.out
                    clear hLk ht hno
                    go_wp2_with fail
                    refine HLk.out.mono ?_
                    rintro e w8 ⟨r2, rfl, A2, k2, rfl, ho2, hb8⟩
                    have HB8 := Lib.hid (HB7.out.trans (hb8.mono HB7.out.size))
                    have HSe := Lib.hid (rsamee_any A2 _ k2 A1 _ k1 _ w8 (Sh.In.of_own (S := shEn) ho2 rfl) (HI3.out.below hb8) (by have := HFw.out P.length; omega))
                    clear c0 c1 c2 ho2 hb8
                    go_wp2_with fail
                    refine HSe.out.mono ?_
                    rintro e w9 ⟨rfl, hb9⟩
                    have HB9 := Lib.hid (HB8.out.trans (hb9.mono HB8.out.size))
                    clear hb9
                    go_wp2_with fail
                    refine (caselooks_any w9).mono ?_
                    rintro e w10 ⟨rfl, hb10⟩
                    go_wp2_with fail
                    go_ret
                    exact ⟨rfl, HBV.out.trans ((HB9.out.trans (hb10.mono HB9.out.size)).mono HBV.out.size)⟩
                  · have hP0 := HFirst.out hno
                    have HCo := Lib.hid (ncontE_any A1 _ k1 _ w7 HI3.out (by rw [hP0]; exact lk_zero _) (HFw.out P.length))
                    clear hP0 hno
                    go_wp2_with fail
                    refine HCo.out.mono ?_
                    rintro e w8 ⟨rfl, hb8⟩
                    have HB8 := Lib.hid (HB7.out.trans (hb8.mono HB7.out.size))
                    clear hb8
                    go_wp2_with fail
                    refine (caselooks_any w8).mono ?_
                    rintro e w10 ⟨rfl, hb10⟩
                    go_wp2_with fail
                    go_ret
                    exact ⟨rfl, HBV.out.trans ((HB8.out.trans (hb10.mono HB8.out.size)).mono HBV.out.size)⟩
      · generalize numE num.data.toList = E at *
        go_wp2_with fail
        refine (caselooks_any W2).mono ?_
        rintro e w2 ⟨rfl, hb2⟩
        go_wp2_with fail
        go_ret
        exact ⟨rfl, HB0.out.trans ((HB2.out.trans (hb2.mono HB2.out.size)).mono HB0.out.size)⟩
end Go.Proofs.YtbhkfemebionnaaGreatDoor
