/- Lemmas and contracts of functions, joined for the claim: LkFo, LkF4, LkCl. -/
import Derived.Test.YtbhkfemebionnaaGreatDoorMLoB
namespace Go.Proofs.YtbhkfemebionnaaGreatDoor
open Go.RowKit

set_option maxRecDepth 100000 in
set_option maxHeartbeats 8000000 in
theorem rmove18_any (ch atr le : Int) (w : World) :
    Calls Tryz.prog 46 #[.int .i64 ch, .int .i64 atr, .int .i64 le] w fun e w' => e = .returned (.agg #[.int .i64 ch, .int .i64 atr, .int .i64 0, .int .i64 le, .int .i64 1]) ∧ Below w.heap.size w w' := by
  obtain ⟨W, hW⟩ : ∃ W, W = w.alloc (.cells #[.int .i64 0, .int .i64 0, .int .i64 0, .int .i64 0, .int .i64 0] 43) := ⟨_, rfl⟩
  have HB0 := Lib.hid (show Below w.heap.size w W by rw [hW]; exact (Below.refl _ _).alloc (Nat.le_refl _) _)
  have HR := Lib.hid (show RowAt W w.heap.size #[.int .i64 0, .int .i64 0, .int .i64 0, .int .i64 0, .int .i64 0] 43 by rw [hW]; exact RowAt.fresh w _ _)
  have HW := Lib.hid hW
  clear hW
  go_enter Tryz.func46, Tryz.ntmps46
  go_wp2_with fail
  rw [← HW.out]
  refine (rat_any le W).mono ?_
  rintro e w1 ⟨rfl, hb⟩
  have hR := HR.out.below hb HR.out.lt
  have HB1 := Lib.hid (HB0.out.trans (hb.mono HB0.out.size))
  have f0 := hR.fr 0
  have f1 := hR.fr 1
  have f2 := hR.fr 2
  have f3 := hR.fr 3
  have f4 := hR.fr 4
  have r0 := hR.cell (j := 0) (u := .int .i64 0) rfl
  have r1 := hR.cell (j := 1) (u := .int .i64 0) rfl
  have r2 := hR.cell (j := 2) (u := .int .i64 0) rfl
  have r3 := hR.cell (j := 3) (u := .int .i64 0) rfl
  have r4 := hR.cell (j := 4) (u := .int .i64 0) rfl
  have HR1 := Lib.hid hR
  clear hR hb
  go_wp2_with fail
  (try simp only [Exit.inBlock, Exit.then])
  have hr := ((((HR1.out.set 0 (.int .i64 ch)).set 1 (.int .i64 atr)).set 2 (.int .i64 0)).set 3 (.int .i64 le)).set 4 (.int .i64 1)
  have k0 := hr.cell (j := 0) (u := .int .i64 ch) rfl
  have k1 := hr.cell (j := 1) (u := .int .i64 atr) rfl
  have k2 := hr.cell (j := 2) (u := .int .i64 0) rfl
  have k3 := hr.cell (j := 3) (u := .int .i64 le) rfl
  have k4 := hr.cell (j := 4) (u := .int .i64 1) rfl
  clear hr
  refine bodyPost_ret (v := .agg #[.int .i64 ch, .int .i64 atr, .int .i64 0, .int .i64 le, .int .i64 1]) ?_ rfl ?_
  · rw [res_cell1 rfl]
    go_simp
  · exact ⟨rfl, ((((HB1.out.setCell (p := ⟨w.heap.size, 0, none⟩) (Nat.le_refl _) _).setCell (p := ⟨w.heap.size, 1, none⟩) (Nat.le_refl _) _).setCell (p := ⟨w.heap.size, 2, none⟩) (Nat.le_refl _) _).setCell (p := ⟨w.heap.size, 3, none⟩) (Nat.le_refl _) _).setCell (p := ⟨w.heap.size, 4, none⟩) (Nat.le_refl _) _⟩
def tm0 : Tm := ⟨0, 0, 0, 0, 0, 0⟩
set_option maxRecDepth 100000 in
set_option maxHeartbeats 8000000 in
theorem rcue18_any (num : ByteArray) (blk : Bool) (MA : Option Addr) (mn mc : Nat) (w : World) :
    Calls Tryz.prog 45 #[.string num, .bool blk, .slice MA mn mc] w fun e w' => e = .returned (.agg #[.string num, .string ⟨#[]⟩, .slice MA mn mc, .slice (some ⟨w.heap.size + 1, 0, none⟩) 1 1, .bool blk, .bool false, .int .i64 (-1), .string ⟨#[]⟩, .int .i64 0]) ∧ shTm.In w' (some ⟨w.heap.size + 1, 0, none⟩) 1 [tm0] ∧ Below w.heap.size w w' := by
  have hmk : ∀ w, (Instr.makeSlice 32 (.int .i64 1) (.int .i64 1)).run Tryz.prog w = .ok (.slice (some ⟨w.heap.size, 0, none⟩) 1 1) (w.alloc (.cells #[.int .i64 0, .int .i64 0, .int .i64 0, .int .i64 0, .int .i64 0, .int .i64 0] 26)) := fun w => by kernel_rfl
  obtain ⟨W, hW⟩ : ∃ W, W = w.alloc (.cells #[.string num, .string ⟨#[]⟩, .slice MA mn mc, .slice (some ⟨w.heap.size + 1, 0, none⟩) 1 1, .bool blk, .bool false, .int .i64 (-1), .string ⟨#[]⟩, .int .i64 0] 34) := ⟨_, rfl⟩
  obtain ⟨V, hV⟩ : ∃ V, V = W.alloc (.cells #[.int .i64 0, .int .i64 0, .int .i64 0, .int .i64 0, .int .i64 0, .int .i64 0] 26) := ⟨_, rfl⟩
  have hb0 : Below w.heap.size w W := by rw [hW]; exact (Below.refl _ _).alloc (Nat.le_refl _) _
  have hb1 : Below W.heap.size W V := by rw [hV]; exact (Below.refl _ _).alloc (Nat.le_refl _) _
  have hR0 : RowAt W w.heap.size #[.string num, .string ⟨#[]⟩, .slice MA mn mc, .slice (some ⟨w.heap.size + 1, 0, none⟩) 1 1, .bool blk, .bool false, .int .i64 (-1), .string ⟨#[]⟩, .int .i64 0] 34 := by rw [hW]; exact RowAt.fresh w _ _
  have hz : W.heap.size = w.heap.size + 1 := by rw [hW]; simp
  have hT : Cells V (w.heap.size + 1) (shTm.vs [tm0]) := by rw [hV, ← hz]; exact Cells.fresh W (shTm.vs [tm0]) _
  have HR := Lib.hid (hR0.below hb1 hR0.lt)
  have HB := Lib.hid (hb0.trans (hb1.mono hb0.size))
  have HT := Lib.hid (In_of_cells hT)
  have HVW := Lib.hid (show V = (w.alloc (.cells #[.string num, .string ⟨#[]⟩, .slice MA mn mc, .slice (some ⟨w.heap.size + 1, 0, none⟩) 1 1, .bool blk, .bool false, .int .i64 (-1), .string ⟨#[]⟩, .int .i64 0] 34)).alloc (.cells #[.int .i64 0, .int .i64 0, .int .i64 0, .int .i64 0, .int .i64 0, .int .i64 0] 26) by rw [hV, hW])
  clear hW hV hb0 hb1 hR0 hz hT
  go_enter Tryz.func45, Tryz.ntmps45
  go_wp2_with fail
  (try simp only [Exit.inBlock, Exit.then])
  rw [← HVW.out]
  have k0 := HR.out.cell (j := 0) (u := .string num) rfl
  have k1 := HR.out.cell (j := 1) (u := .string ⟨#[]⟩) rfl
  have k2 := HR.out.cell (j := 2) (u := .slice MA mn mc) rfl
  have k3 := HR.out.cell (j := 3) (u := .slice (some ⟨w.heap.size + 1, 0, none⟩) 1 1) rfl
  have k4 := HR.out.cell (j := 4) (u := .bool blk) rfl
  have k5 := HR.out.cell (j := 5) (u := .bool false) rfl
  have k6 := HR.out.cell (j := 6) (u := .int .i64 (-1)) rfl
  have k7 := HR.out.cell (j := 7) (u := .string ⟨#[]⟩) rfl
  have k8 := HR.out.cell (j := 8) (u := .int .i64 0) rfl
  refine bodyPost_ret (v := .agg #[.string num, .string ⟨#[]⟩, .slice MA mn mc, .slice (some ⟨w.heap.size + 1, 0, none⟩) 1 1, .bool blk, .bool false, .int .i64 (-1), .string ⟨#[]⟩, .int .i64 0]) ?_ rfl ⟨rfl, HT.out, HB.out⟩
  rw [res_cell1 rfl]
  go_simp

def S4 : List Sk := [(false, [((1, 0), (0, 100)), ((1, 1), (0, 7))]), (false, [((1, 0), (0, 200))]), (true, [((1, 1), (0, 9))]), (false, [((2, 0), (0, 50))])]
def cu4 (num : ByteArray) (m n t : Nat) (blk : Bool) : Cu := ⟨num, ⟨#[]⟩, some ⟨m, 0, none⟩, n, n, some ⟨t, 0, none⟩, 1, 1, blk, false, -1, ⟨#[]⟩, 0⟩
def X4 (m0 t0 m1 t1 m2 t2 m3 t3 : Nat) : List CV := [⟨cu4 ⟨#[49]⟩ m0 2 t0 false, [⟨1, 0, 0, 100, 1⟩, ⟨1, 1, 0, 7, 1⟩], [tm0]⟩, ⟨cu4 ⟨#[50]⟩ m1 1 t1 false, [⟨1, 0, 0, 200, 1⟩], [tm0]⟩, ⟨cu4 ⟨#[51]⟩ m2 1 t2 true, [⟨1, 1, 0, 9, 1⟩], [tm0]⟩, ⟨cu4 ⟨#[52]⟩ m3 1 t3 false, [⟨2, 0, 0, 50, 1⟩], [tm0]⟩]
theorem X4_sk (m0 t0 m1 t1 m2 t2 m3 t3 : Nat) : (X4 m0 t0 m1 t1 m2 t2 m3 t3).map CV.sk = S4 := rfl
theorem cu4_fit {num : ByteArray} {n : Nat} (hn : num.size ≤ 9223372036854775807) (h : n ≤ 9223372036854775807) (m t : Nat) (blk : Bool) (ms : List Mv) (ts : List Tm) : (CV.mk (cu4 num m n t blk) ms ts).fitS :=
  ⟨hn, Nat.zero_le _, Nat.le_refl n, h⟩
theorem X4_fit (m0 t0 m1 t1 m2 t2 m3 t3 : Nat) : ∀ x ∈ X4 m0 t0 m1 t1 m2 t2 m3 t3, x.fitS := by
  intro x hx
  simp only [X4, List.mem_cons, List.not_mem_nil, or_false] at hx
  rcases hx with rfl | rfl | rfl | rfl <;> exact cu4_fit (by decide) (by decide) _ _ _ _ _
theorem tm0_ok : tm0.ok := by unfold Tm.ok Tm.all tm0; decide
theorem cu4_ok {num : ByteArray} (hn : numE num.data.toList = 0) (m n t : Nat) (blk : Bool) {ms : List Mv} (hm : MvsOK ms) (hp : ∀ m ∈ ms, m.pt = 1) : CuOK ⟨cu4 num m n t blk, ms, [tm0]⟩ where
  num := hn
  lab := ⟨Nat.zero_le _, fun c h => by cases h⟩
  ms := hm
  t1 := Nat.le_refl 1
  t4 := show 1 ≤ 4 by decide
  ts := fun t h => by simp only [List.mem_cons, List.not_mem_nil, or_false] at h; subst h; exact tm0_ok
  pt := fun m h => by rw [hp m h]; exact Int.le_refl _
  fol := .inl rfl
  lnk := .inl rfl
  lps := show (0 : Int) ≤ 0 ∧ (0 : Int) ≤ 100 by decide
  use := fun _ => rfl
theorem X4_ok (m0 t0 m1 t1 m2 t2 m3 t3 : Nat) : LsOK 1 0 (X4 m0 t0 m1 t1 m2 t2 m3 t3) := by
  have v1 : numE (ByteArray.mk #[49]).data.toList = 0 := by decide +kernel
  have v2 : numE (ByteArray.mk #[50]).data.toList = 0 := by decide +kernel
  have v3 : numE (ByteArray.mk #[51]).data.toList = 0 := by decide +kernel
  have v4 : numE (ByteArray.mk #[52]).data.toList = 0 := by decide +kernel
  have u1 : numV (ByteArray.mk #[49]).data.toList = 1000 := by decide +kernel
  have u2 : numV (ByteArray.mk #[50]).data.toList = 2000 := by decide +kernel
  have u3 : numV (ByteArray.mk #[51]).data.toList = 3000 := by decide +kernel
  have u4 : numV (ByteArray.mk #[52]).data.toList = 4000 := by decide +kernel
  have m1 : ∀ (ch atr le : Int), 1 ≤ ch ∧ ch ≤ 999 → 0 ≤ atr ∧ atr ≤ 14 → 0 ≤ le ∧ le ≤ 65535 → MvsOK [⟨ch, atr, 0, le, 1⟩] := fun ch atr le a b c =>
    ⟨by simp, fun m hm => by
      simp only [List.mem_cons, List.not_mem_nil, or_false] at hm
      subst hm
      exact ⟨⟨a.1, a.2, b.1, b.2⟩, .inl ⟨rfl, c.1, c.2⟩, Int.le_refl _, by show (1 : Int) ≤ 4; decide⟩, List.pairwise_singleton _ _⟩
  have m2 : MvsOK [⟨1, 0, 0, 100, 1⟩, ⟨1, 1, 0, 7, 1⟩] :=
    ⟨by simp, fun m hm => by
      simp only [List.mem_cons, List.not_mem_nil, or_false] at hm
      rcases hm with rfl | rfl
      · exact (m1 1 0 100 (by decide) (by decide) (by decide)).ok _ (List.mem_cons_self ..)
      · exact (m1 1 1 7 (by decide) (by decide) (by decide)).ok _ (List.mem_cons_self ..), List.Pairwise.cons (fun m hm => by
        simp only [List.mem_cons, List.not_mem_nil, or_false] at hm
        subst hm
        exact .inr ⟨rfl, by decide⟩) (List.pairwise_singleton _ _)⟩
  have hp1 : ∀ (ch atr le : Int), ∀ m ∈ [Mv.mk ch atr 0 le 1], m.pt = 1 := fun ch atr le m hm => by
    simp only [List.mem_cons, List.not_mem_nil, or_false] at hm
    subst hm
    rfl
  refine ⟨by decide, by decide, by simp [X4], ?_, ?_⟩
  · intro x hx
    simp only [X4, List.mem_cons, List.not_mem_nil, or_false] at hx
    rcases hx with rfl | rfl | rfl | rfl
    · exact cu4_ok v1 _ _ _ _ m2 fun m hm => by
        simp only [List.mem_cons, List.not_mem_nil, or_false] at hm
        rcases hm with rfl | rfl <;> rfl
    · exact cu4_ok v2 _ _ _ _ (m1 1 0 200 (by decide) (by decide) (by decide)) (hp1 _ _ _)
    · exact cu4_ok v3 _ _ _ _ (m1 1 1 9 (by decide) (by decide) (by decide)) (hp1 _ _ _)
    · exact cu4_ok v4 _ _ _ _ (m1 2 0 50 (by decide) (by decide) (by decide)) (hp1 _ _ _)
  · have e : ∀ (a b : ByteArray) (m n t m' n' t' : Nat) (bl bl' : Bool) (ms ms' : List Mv), numV a.data.toList < numV b.data.toList → ltN ⟨cu4 a m n t bl, ms, [tm0]⟩ ⟨cu4 b m' n' t' bl', ms', [tm0]⟩ := fun _ _ _ _ _ _ _ _ _ _ _ _ h => h
    refine List.Pairwise.cons (fun y hy => ?_) (List.Pairwise.cons (fun y hy => ?_) (List.Pairwise.cons (fun y hy => ?_) (List.pairwise_singleton _ _)))
    all_goals
      simp only [List.mem_cons, List.not_mem_nil, or_false] at hy
    · rcases hy with rfl | rfl | rfl <;> exact e _ _ _ _ _ _ _ _ _ _ _ _ (by omega)
    · rcases hy with rfl | rfl <;> exact e _ _ _ _ _ _ _ _ _ _ _ _ (by omega)
    · subst hy; exact e _ _ _ _ _ _ _ _ _ _ _ _ (by omega)
end Go.Proofs.YtbhkfemebionnaaGreatDoor

namespace Go.Proofs.YtbhkfemebionnaaGreatDoor
open Go.RowKit

theorem Sh.In.far1 {α : Type} {S : Sh α} {w : World} {m n : Nat} {l : List α} (h : S.In w (some ⟨m, 0, none⟩) n l) {B : Nat} (hne : B ≠ m) (j : Nat) (v : Value) : S.In (w.setCell ⟨B, j, none⟩ v) (some ⟨m, 0, none⟩) n l :=
  ⟨h.1, h.2.1, fun h0 => by
    obtain ⟨b, o, e, hb, hc⟩ := h.2.2 h0
    injection e with e
    injection e with e1 e2
    subst e1 e2
    exact ⟨m, 0, rfl, by rw [World.size_setCell]; exact hb, fun j' u hu => (World.cell?_setCell_other w ⟨B, j, none⟩ ⟨m, 0 + j', none⟩ v (fun e => by injection e with e; exact hne e)).trans (hc j' u hu)⟩⟩
set_option maxRecDepth 100000 in
set_option maxHeartbeats 16000000 in
theorem four_any (w : World) :
    Calls Tryz.prog 24 #[] w fun e w' => ∃ (A : Option Addr) (m0 t0 m1 t1 m2 t2 m3 t3 : Nat), e = .returned (.agg #[.int .i64 1, .int .i64 0, .slice A 4 4]) ∧ InC w' A 4 (X4 m0 t0 m1 t1 m2 t2 m3 t3) ∧ Below w.heap.size w w' := by
  obtain ⟨W0, hW0⟩ : ∃ W0, W0 = w.alloc (.cells #[.int .i64 0, .int .i64 0, .slice none 0 0] 24) := ⟨_, rfl⟩
  have hb0 : Below w.heap.size w W0 := by rw [hW0]; exact (Below.refl _ _).alloc (Nat.le_refl _) _
  have HR0 := Lib.hid (show RowAt W0 w.heap.size #[.int .i64 0, .int .i64 0, .slice none 0 0] 24 by rw [hW0]; exact RowAt.fresh w _ _)
  have HB0 := Lib.hid hb0
  have HW0 := Lib.hid hW0
  have e45 := enters_of Tryz.func45 (by kernel_rfl) rfl
  clear hW0 hb0
  go_enter Tryz.func24, Tryz.ntmps24
  go_wp2_with fail
  rw [← HW0.out]
  refine (rmove18_any 1 0 100 W0).mono ?_
  rintro e w1 ⟨rfl, hb⟩
  have Hw1 := Lib.hid hb
  clear hb
  go_wp2_with fail
  refine (rmove18_any 1 1 7 w1).mono ?_
  rintro e w2 ⟨rfl, hb⟩
  have Hw2 := Lib.hid hb
  clear hb
  go_wp2_with fail
  obtain ⟨v0, hv0⟩ : ∃ v0, v0 = w2.alloc (.cells #[.int .i64 1, .int .i64 0, .int .i64 0, .int .i64 100, .int .i64 1, .int .i64 1, .int .i64 1, .int .i64 0, .int .i64 7, .int .i64 1] 43) := ⟨_, rfl⟩
  have Hv0 := Lib.hid (show Below w2.heap.size w2 v0 by rw [hv0]; exact (Below.refl _ _).alloc (Nat.le_refl _) _)
  have M0 := Lib.hid (show shMv.In v0 (some ⟨w2.heap.size, 0, none⟩) 2 [⟨1, 0, 0, 100, 1⟩, ⟨1, 1, 0, 7, 1⟩] by rw [hv0]; exact In_of_cells (S := shMv) (Cells.fresh w2 (shMv.vs [⟨1, 0, 0, 100, 1⟩, ⟨1, 1, 0, 7, 1⟩]) _))
  rw [← hv0]
  clear hv0
  go_at_call 45
  refine (rcue18_any ⟨#[49]⟩ false (some ⟨w2.heap.size, 0, none⟩) 2 2 v0).mono ?_
  rintro e w3 ⟨rfl, ht, hb⟩
  have Hw3 := Lib.hid hb
  have T0 := Lib.hid ht
  clear hb ht
  go_wp2_with fail
  refine (rmove18_any 1 0 200 w3).mono ?_
  rintro e w4 ⟨rfl, hb⟩
  have Hw4 := Lib.hid hb
  clear hb
  go_wp2_with fail
  obtain ⟨v1, hv1⟩ : ∃ v1, v1 = w4.alloc (.cells #[.int .i64 1, .int .i64 0, .int .i64 0, .int .i64 200, .int .i64 1] 43) := ⟨_, rfl⟩
  have Hv1 := Lib.hid (show Below w4.heap.size w4 v1 by rw [hv1]; exact (Below.refl _ _).alloc (Nat.le_refl _) _)
  have M1 := Lib.hid (show shMv.In v1 (some ⟨w4.heap.size, 0, none⟩) 1 [⟨1, 0, 0, 200, 1⟩] by rw [hv1]; exact In_of_cells (S := shMv) (Cells.fresh w4 (shMv.vs [⟨1, 0, 0, 200, 1⟩]) _))
  rw [← hv1]
  clear hv1
  go_at_call 45
  refine (rcue18_any ⟨#[50]⟩ false (some ⟨w4.heap.size, 0, none⟩) 1 1 v1).mono ?_
  rintro e w5 ⟨rfl, ht, hb⟩
  have Hw5 := Lib.hid hb
  have T1 := Lib.hid ht
  clear hb ht
  go_wp2_with fail
  refine (rmove18_any 1 1 9 w5).mono ?_
  rintro e w6 ⟨rfl, hb⟩
  have Hw6 := Lib.hid hb
  clear hb
  go_wp2_with fail
  obtain ⟨v2, hv2⟩ : ∃ v2, v2 = w6.alloc (.cells #[.int .i64 1, .int .i64 1, .int .i64 0, .int .i64 9, .int .i64 1] 43) := ⟨_, rfl⟩
  have Hv2 := Lib.hid (show Below w6.heap.size w6 v2 by rw [hv2]; exact (Below.refl _ _).alloc (Nat.le_refl _) _)
  have M2 := Lib.hid (show shMv.In v2 (some ⟨w6.heap.size, 0, none⟩) 1 [⟨1, 1, 0, 9, 1⟩] by rw [hv2]; exact In_of_cells (S := shMv) (Cells.fresh w6 (shMv.vs [⟨1, 1, 0, 9, 1⟩]) _))
  rw [← hv2]
  clear hv2
  go_at_call 45
  refine (rcue18_any ⟨#[51]⟩ true (some ⟨w6.heap.size, 0, none⟩) 1 1 v2).mono ?_
  rintro e w7 ⟨rfl, ht, hb⟩
  have Hw7 := Lib.hid hb
  have T2 := Lib.hid ht
  clear hb ht
  go_wp2_with fail
  refine (rmove18_any 2 0 50 w7).mono ?_
  rintro e w8 ⟨rfl, hb⟩
  have Hw8 := Lib.hid hb
  clear hb
  go_wp2_with fail
  obtain ⟨v3, hv3⟩ : ∃ v3, v3 = w8.alloc (.cells #[.int .i64 2, .int .i64 0, .int .i64 0, .int .i64 50, .int .i64 1] 43) := ⟨_, rfl⟩
  have Hv3 := Lib.hid (show Below w8.heap.size w8 v3 by rw [hv3]; exact (Below.refl _ _).alloc (Nat.le_refl _) _)
  have M3 := Lib.hid (show shMv.In v3 (some ⟨w8.heap.size, 0, none⟩) 1 [⟨2, 0, 0, 50, 1⟩] by rw [hv3]; exact In_of_cells (S := shMv) (Cells.fresh w8 (shMv.vs [⟨2, 0, 0, 50, 1⟩]) _))
  rw [← hv3]
  clear hv3
  go_at_call 45
  refine (rcue18_any ⟨#[52]⟩ false (some ⟨w8.heap.size, 0, none⟩) 1 1 v3).mono ?_
  rintro e w9 ⟨rfl, ht, hb⟩
  have Hw9 := Lib.hid hb
  have T3 := Lib.hid ht
  clear hb ht
  have z0 : w.heap.size < W0.heap.size := HR0.out.lt
  have zw1 := Hw1.out.size
  have zw2 := Hw2.out.size
  have zv0 := Hv0.out.size
  have zw3 := Hw3.out.size
  have zw4 := Hw4.out.size
  have zv1 := Hv1.out.size
  have zw5 := Hw5.out.size
  have zw6 := Hw6.out.size
  have zv2 := Hv2.out.size
  have zw7 := Hw7.out.size
  have zw8 := Hw8.out.size
  have zv3 := Hv3.out.size
  have zw9 := Hw9.out.size
  have hA0 := HB0.out
  have hAw1 := hA0.trans (Hw1.out.mono hA0.size)
  have hAw2 := hAw1.trans (Hw2.out.mono hAw1.size)
  have hAv0 := hAw2.trans (Hv0.out.mono hAw2.size)
  have hAw3 := hAv0.trans (Hw3.out.mono hAv0.size)
  have hAw4 := hAw3.trans (Hw4.out.mono hAw3.size)
  have hAv1 := hAw4.trans (Hv1.out.mono hAw4.size)
  have hAw5 := hAv1.trans (Hw5.out.mono hAv1.size)
  have hAw6 := hAw5.trans (Hw6.out.mono hAw5.size)
  have hAv2 := hAw6.trans (Hv2.out.mono hAw6.size)
  have hAw7 := hAv2.trans (Hw7.out.mono hAv2.size)
  have hAw8 := hAw7.trans (Hw8.out.mono hAw7.size)
  have hAv3 := hAw8.trans (Hv3.out.mono hAw8.size)
  have hAw9 := hAv3.trans (Hw9.out.mono hAv3.size)
  have q0 := ((((((((((M0.out).below Hw3.out).below Hw4.out).below Hv1.out).below Hw5.out).below Hw6.out).below Hv2.out).below Hw7.out).below Hw8.out).below Hv3.out).below Hw9.out
  have u0 := (((((((((T0.out).below Hw4.out).below Hv1.out).below Hw5.out).below Hw6.out).below Hv2.out).below Hw7.out).below Hw8.out).below Hv3.out).below Hw9.out
  have q1 := (((((((M1.out).below Hw5.out).below Hw6.out).below Hv2.out).below Hw7.out).below Hw8.out).below Hv3.out).below Hw9.out
  have u1 := ((((((T1.out).below Hw6.out).below Hv2.out).below Hw7.out).below Hw8.out).below Hv3.out).below Hw9.out
  have q2 := ((((M2.out).below Hw7.out).below Hw8.out).below Hv3.out).below Hw9.out
  have u2 := (((T2.out).below Hw8.out).below Hv3.out).below Hw9.out
  have q3 := (M3.out).below Hw9.out
  have u3 := T3.out
  have hCw1 := Hw1.out
  have hCw2 := hCw1.trans (Hw2.out.mono hCw1.size)
  have hCv0 := hCw2.trans (Hv0.out.mono hCw2.size)
  have hCw3 := hCv0.trans (Hw3.out.mono hCv0.size)
  have hCw4 := hCw3.trans (Hw4.out.mono hCw3.size)
  have hCv1 := hCw4.trans (Hv1.out.mono hCw4.size)
  have hCw5 := hCv1.trans (Hw5.out.mono hCv1.size)
  have hCw6 := hCw5.trans (Hw6.out.mono hCw5.size)
  have hCv2 := hCw6.trans (Hv2.out.mono hCw6.size)
  have hCw7 := hCv2.trans (Hw7.out.mono hCv2.size)
  have hCw8 := hCw7.trans (Hw8.out.mono hCw7.size)
  have hCv3 := hCw8.trans (Hv3.out.mono hCw8.size)
  have hCw9 := hCv3.trans (Hw9.out.mono hCv3.size)
  have hR := HR0.out.below hCw9 HR0.out.lt
  have f0 := hR.fr 0
  have r0 := hR.cell (j := 0) (u := .int .i64 0) rfl
  have f1 := hR.fr 1
  have r1 := hR.cell (j := 1) (u := .int .i64 0) rfl
  have f2 := hR.fr 2
  have r2 := hR.cell (j := 2) (u := .slice none 0 0) rfl
  have HAll := Lib.hid (And.intro hAw9 (And.intro hR (And.intro q0 (And.intro u0 (And.intro q1 (And.intro u1 (And.intro q2 (And.intro u2 (And.intro q3 u3)))))))))
  have HZ := Lib.hid (show w.heap.size < w9.heap.size ∧ (w.heap.size ≠ w2.heap.size ∧ w.heap.size ≠ w4.heap.size ∧ w.heap.size ≠ w6.heap.size ∧ w.heap.size ≠ w8.heap.size) ∧ (w.heap.size ≠ v0.heap.size + 1 ∧ w.heap.size ≠ v1.heap.size + 1 ∧ w.heap.size ≠ v2.heap.size + 1 ∧ w.heap.size ≠ v3.heap.size + 1) from ⟨by omega, ⟨by omega, by omega, by omega, by omega⟩, ⟨by omega, by omega, by omega, by omega⟩⟩)
  have hlt := HZ.out.1
  clear z0 hA0 hR q0 u0 q1 u1 q2 u2 q3 u3 zw1 zw2 zv0 zw3 zw4 zv1 zw5 zw6 zv2 zw7 zw8 zv3 zw9 hAw1 hAw2 hAv0 hAw3 hAw4 hAv1 hAw5 hAw6 hAv2 hAw7 hAw8 hAv3 hAw9 hCw1 hCw2 hCv0 hCw3 hCw4 hCv1 hCw5 hCw6 hCv2 hCw7 hCw8 hCv3 hCw9
  go_wp2_with fail
  (try simp only [Exit.inBlock, Exit.then])
  obtain ⟨hA, hR, q0, u0, q1, u1, q2, u2, q3, u3⟩ := HAll.out
  obtain ⟨-, ⟨n0, n1, n2, n3⟩, ⟨l0, l1, l2, l3⟩⟩ := HZ.out
  have hr := ((hR.set 0 (.int .i64 1)).set 1 (.int .i64 0)).set 2 (.slice (some ⟨w9.heap.size, 0, none⟩) 4 4)
  have hsz : (((w9.setCell ⟨w.heap.size, 0, none⟩ (.int .i64 1)).setCell ⟨w.heap.size, 1, none⟩ (.int .i64 0)).setCell ⟨w.heap.size, 2, none⟩ (.slice (some ⟨w9.heap.size, 0, none⟩) 4 4)).heap.size = w9.heap.size := by simp
  have hA2 := ((hA.setCell (p := ⟨w.heap.size, 0, none⟩) (Nat.le_refl _) (.int .i64 1)).setCell (p := ⟨w.heap.size, 1, none⟩) (Nat.le_refl _) (.int .i64 0)).setCell (p := ⟨w.heap.size, 2, none⟩) (Nat.le_refl _) (.slice (some ⟨w9.heap.size, 0, none⟩) 4 4)
  replace q0 := (((q0).far1 n0 0 (.int .i64 1)).far1 n0 1 (.int .i64 0)).far1 n0 2 (.slice (some ⟨w9.heap.size, 0, none⟩) 4 4)
  replace q1 := (((q1).far1 n1 0 (.int .i64 1)).far1 n1 1 (.int .i64 0)).far1 n1 2 (.slice (some ⟨w9.heap.size, 0, none⟩) 4 4)
  replace q2 := (((q2).far1 n2 0 (.int .i64 1)).far1 n2 1 (.int .i64 0)).far1 n2 2 (.slice (some ⟨w9.heap.size, 0, none⟩) 4 4)
  replace q3 := (((q3).far1 n3 0 (.int .i64 1)).far1 n3 1 (.int .i64 0)).far1 n3 2 (.slice (some ⟨w9.heap.size, 0, none⟩) 4 4)
  replace u0 := (((u0).far1 l0 0 (.int .i64 1)).far1 l0 1 (.int .i64 0)).far1 l0 2 (.slice (some ⟨w9.heap.size, 0, none⟩) 4 4)
  replace u1 := (((u1).far1 l1 0 (.int .i64 1)).far1 l1 1 (.int .i64 0)).far1 l1 2 (.slice (some ⟨w9.heap.size, 0, none⟩) 4 4)
  replace u2 := (((u2).far1 l2 0 (.int .i64 1)).far1 l2 1 (.int .i64 0)).far1 l2 2 (.slice (some ⟨w9.heap.size, 0, none⟩) 4 4)
  replace u3 := (((u3).far1 l3 0 (.int .i64 1)).far1 l3 1 (.int .i64 0)).far1 l3 2 (.slice (some ⟨w9.heap.size, 0, none⟩) 4 4)
  obtain ⟨W9, hW9⟩ : ∃ W9, W9 = (((w9.setCell ⟨w.heap.size, 0, none⟩ (.int .i64 1)).setCell ⟨w.heap.size, 1, none⟩ (.int .i64 0)).setCell ⟨w.heap.size, 2, none⟩ (.slice (some ⟨w9.heap.size, 0, none⟩) 4 4)) := ⟨_, rfl⟩
  rw [← hW9] at hr hsz hA2 q0 u0 q1 u1 q2 u2 q3 u3 ⊢
  obtain ⟨V9, hV9⟩ : ∃ V9, V9 = W9.alloc (.cells (shCu.vs ((X4 w2.heap.size (v0.heap.size + 1) w4.heap.size (v1.heap.size + 1) w6.heap.size (v2.heap.size + 1) w8.heap.size (v3.heap.size + 1)).map CV.c)).toArray 34) := ⟨_, rfl⟩
  have hb9 : Below W9.heap.size W9 V9 := by rw [hV9]; exact (Below.refl _ _).alloc (Nat.le_refl _) _
  have hc9 : Cells V9 w9.heap.size (shCu.vs ((X4 w2.heap.size (v0.heap.size + 1) w4.heap.size (v1.heap.size + 1) w6.heap.size (v2.heap.size + 1) w8.heap.size (v3.heap.size + 1)).map CV.c)) := by rw [hV9, ← hsz]; exact Cells.fresh W9 _ _
  have hr9 := hr.below hb9 hr.lt
  have k0 := hr9.cell (j := 0) (u := .int .i64 1) rfl
  have k1 := hr9.cell (j := 1) (u := .int .i64 0) rfl
  have k2 := hr9.cell (j := 2) (u := .slice (some ⟨w9.heap.size, 0, none⟩) 4 4) rfl
  change bodyPost _ _ _ _ _ (W9.alloc (.cells (shCu.vs ((X4 w2.heap.size (v0.heap.size + 1) w4.heap.size (v1.heap.size + 1) w6.heap.size (v2.heap.size + 1) w8.heap.size (v3.heap.size + 1)).map CV.c)).toArray 34))
  rw [← hV9]
  refine bodyPost_ret (v := .agg #[.int .i64 1, .int .i64 0, .slice (some ⟨w9.heap.size, 0, none⟩) 4 4]) ?_ rfl ⟨some ⟨w9.heap.size, 0, none⟩, w2.heap.size, v0.heap.size + 1, w4.heap.size, v1.heap.size + 1, w6.heap.size, v2.heap.size + 1, w8.heap.size, v3.heap.size + 1, rfl, ⟨In_of_cells hc9, fun x hx => ?_⟩, hA2.trans (hb9.mono hA2.size)⟩
  · rw [res_cell1 rfl]
    go_simp
  · simp only [X4, List.mem_cons, List.not_mem_nil, or_false] at hx
    rcases hx with rfl | rfl | rfl | rfl
    · exact ⟨q0.below hb9, u0.below hb9⟩
    · exact ⟨q1.below hb9, u1.below hb9⟩
    · exact ⟨q2.below hb9, u2.below hb9⟩
    · exact ⟨q3.below hb9, u3.below hb9⟩
end Go.Proofs.YtbhkfemebionnaaGreatDoor

namespace Go.Proofs.YtbhkfemebionnaaGreatDoor
open Go.RowKit

theorem lk4_2 : lkS S4 2 = [⟨1, 0, 0, 200⟩, ⟨1, 1, 0, 7⟩, ⟨2, 0, -1, 0⟩] := by rfl
theorem lk4_3 : lkS S4 3 = [⟨1, 0, -1, 0⟩, ⟨1, 1, 0, 9⟩, ⟨2, 0, -1, 0⟩] := by rfl
theorem ix4_2 (m0 t0 m1 t1 m2 t2 m3 t3 : Nat) : idxOf (numQ ⟨#[50]⟩) (X4 m0 t0 m1 t1 m2 t2 m3 t3) = ((1 : Nat) : Int) :=
  idxOf_some (k := 1) (by simp [X4]) (fun i h => by
    obtain rfl : i = 0 := by omega
    exact decide_eq_false (by show ¬ (ByteArray.mk #[49]) = ⟨#[50]⟩; decide)) (decide_eq_true rfl)
theorem ix4_3 (m0 t0 m1 t1 m2 t2 m3 t3 : Nat) : idxOf (numQ ⟨#[51]⟩) (X4 m0 t0 m1 t1 m2 t2 m3 t3) = ((2 : Nat) : Int) :=
  idxOf_some (k := 2) (by simp [X4]) (fun i h => by
    rcases (show i = 0 ∨ i = 1 by omega) with rfl | rfl
    · exact decide_eq_false (by show ¬ (ByteArray.mk #[49]) = ⟨#[51]⟩; decide)
    · exact decide_eq_false (by show ¬ (ByteArray.mk #[50]) = ⟨#[51]⟩; decide)) (decide_eq_true rfl)
set_option maxRecDepth 100000 in
set_option maxHeartbeats 32000000 in
theorem caselooks_any (w : World) : Calls Tryz.prog 6 #[] w fun e w' => e = .returned (.bool true) ∧ Below w.heap.size w w' := by
  go_enter Tryz.func6, Tryz.ntmps6
  go_wp2_with fail
  refine (four_any w).mono ?_
  rintro e w1 ⟨A, m0, t0, m1, t1, m2, t2, m3, t3, rfl, hX, hb⟩
  have HL := Lib.hid (ntLook_any 1 0 A 4 4 (X4 m0 t0 m1 t1 m2 t2 m3 t3) ⟨#[50]⟩ w1 hX (X4_fit m0 t0 m1 t1 m2 t2 m3 t3) (X4_ok m0 t0 m1 t1 m2 t2 m3 t3) (by decide) (by decide +kernel) 1 (ix4_2 m0 t0 m1 t1 m2 t2 m3 t3))
  rw [X4_sk, lk4_2] at HL
  have HB := Lib.hid hb
  clear hX hb
  go_wp2_with fail
  refine HL.out.mono ?_
  rintro e w2 ⟨r, rfl, A1, c1, rfl, ho, hb⟩
  have HB2 := Lib.hid (HB.out.trans (hb.mono HB.out.size))
  have HI1 := Lib.hid (Sh.In.of_own (S := shEn) ho rfl)
  clear ho hb HL HB
  go_wp2_with fail
  refine (four_any w2).mono ?_
  rintro e w3 ⟨A, m0, t0, m1, t1, m2, t2, m3, t3, rfl, hX, hb⟩
  have HL := Lib.hid (ntLook_any 1 0 A 4 4 (X4 m0 t0 m1 t1 m2 t2 m3 t3) ⟨#[51]⟩ w3 hX (X4_fit m0 t0 m1 t1 m2 t2 m3 t3) (X4_ok m0 t0 m1 t1 m2 t2 m3 t3) (by decide) (by decide +kernel) 2 (ix4_3 m0 t0 m1 t1 m2 t2 m3 t3))
  rw [X4_sk, lk4_3] at HL
  have HB3 := Lib.hid (HB2.out.trans (hb.mono HB2.out.size))
  have HI3 := Lib.hid (HI1.out.below hb)
  clear hX hb
  go_wp2_with fail
  refine HL.out.mono ?_
  rintro e w4 ⟨r, rfl, A2, c2, rfl, ho, hb⟩
  have HB4 := Lib.hid (HB3.out.trans (hb.mono HB3.out.size))
  obtain ⟨b1, o1, rfl, hb1, h1⟩ := en_at (HI3.out.below hb) (by decide)
  obtain ⟨b2, o2, rfl, hb2, h2⟩ := en_at (Sh.In.of_own (S := shEn) ho rfl) (by decide)
  obtain ⟨-, -, x0, x1⟩ := h1 1 (by decide)
  obtain ⟨-, -, y0, y1⟩ := h2 0 (by decide)
  obtain ⟨-, -, z0, z1⟩ := h2 1 (by decide)
  have HK := Lib.hid (show ∀ V, Below w4.heap.size w4 V → V.cell? ⟨b1, o1 + 6, none⟩ = some (.int .i64 0) ∧ V.cell? ⟨b1, o1 + 7, none⟩ = some (.int .i64 7) ∧ V.cell? ⟨b2, o2 + 2, none⟩ = some (.int .i64 (-1)) ∧ V.cell? ⟨b2, o2 + 3, none⟩ = some (.int .i64 0) ∧ V.cell? ⟨b2, o2 + 6, none⟩ = some (.int .i64 0) ∧ V.cell? ⟨b2, o2 + 7, none⟩ = some (.int .i64 9) from fun V h =>
    ⟨(h.cell (p := ⟨b1, _, none⟩) hb1).trans x0, (h.cell (p := ⟨b1, _, none⟩) hb1).trans x1, (h.cell (p := ⟨b2, _, none⟩) hb2).trans y0, (h.cell (p := ⟨b2, _, none⟩) hb2).trans y1, (h.cell (p := ⟨b2, _, none⟩) hb2).trans z0, (h.cell (p := ⟨b2, _, none⟩) hb2).trans z1⟩)
  have hB := Below.refl w4.heap.size w4
  have hw0 : IntKind.i64.wrap 0 = 0 := by decide
  clear ho hb h1 h2 x0 x1 y0 y1 z0 z1 HL HI1 HI3 hb1 hb2
  go_wp2_with fail
  replace hB := below_drewN hB 1
  obtain ⟨p0, p1, p2, p3, p4, p5⟩ := HK.out _ hB
  refine wp_region_held_drew (S := fun w' => w'.cell? ⟨b1, o1 + 6, none⟩ = some (.int .i64 0) ∧ w'.cell? ⟨b1, o1 + 7, none⟩ = some (.int .i64 7) ∧ w'.cell? ⟨b2, o2 + 2, none⟩ = some (.int .i64 (-1)) ∧ w'.cell? ⟨b2, o2 + 3, none⟩ = some (.int .i64 0) ∧ w'.cell? ⟨b2, o2 + 6, none⟩ = some (.int .i64 0) ∧ w'.cell? ⟨b2, o2 + 7, none⟩ = some (.int .i64 9)) (by kernel_rfl) (by first | exact ⟨p0, p1, p2, p3, p4, p5⟩) (fun hHeld => ?_)
  refine wpAnyH_take (i := 0) (oi := ?_) (v := ?_) ?_ (by kernel_rfl) (by kernel_rfl) (by kernel_rfl) ?_ (Or.inl ⟨?_, ?_⟩) (by assumption) ?_
  rotate_left 2
  · (simp only [List.getElem?_toArray, List.getElem?_cons_zero]; rfl)
  · exact fun _ _ _ h => h
  · rfl
  · (intro w hSw; (try dsimp only at hSw); go_simp; try with_reducible rfl)
  simp only [Act.put, List.setIfInBounds_toArray, List.set_cons_zero, List.set_cons_succ]
  refine wpAnyH_take (i := 1) (oi := ?_) (v := ?_) ?_ (by kernel_rfl) (by kernel_rfl) (by kernel_rfl) ?_ (Or.inl ⟨?_, ?_⟩) (by assumption) ?_
  rotate_left 2
  · (simp only [List.getElem?_toArray, List.getElem?_cons_succ, List.getElem?_cons_zero]; rfl)
  · exact fun _ _ _ h => h
  · rfl
  · (intro w hSw; (try dsimp only at hSw); go_simp; try with_reducible rfl)
  simp only [Act.put, List.setIfInBounds_toArray, List.set_cons_zero, List.set_cons_succ]
  refine wpAnyH_take (i := 2) (oi := ?_) (v := ?_) ?_ (by kernel_rfl) (by kernel_rfl) (by kernel_rfl) ?_ (Or.inl ⟨?_, ?_⟩) (by assumption) ?_
  rotate_left 2
  · (simp only [List.getElem?_toArray, List.getElem?_cons_succ, List.getElem?_cons_zero]; rfl)
  · exact fun _ _ _ h => h
  · rfl
  · (intro w hSw; (try dsimp only at hSw); go_simp; try with_reducible rfl)
  simp only [Act.put, List.setIfInBounds_toArray, List.set_cons_zero, List.set_cons_succ]
  refine wpAnyH_take (i := 3) (oi := ?_) (v := ?_) ?_ (by kernel_rfl) (by kernel_rfl) (by kernel_rfl) ?_ (Or.inl ⟨?_, ?_⟩) (by assumption) ?_
  rotate_left 2
  · (simp only [List.getElem?_toArray, List.getElem?_cons_succ, List.getElem?_cons_zero]; rfl)
  · exact fun _ _ _ h => h
  · rfl
  · (intro w hSw; (try dsimp only at hSw); go_simp; try with_reducible rfl)
  simp only [Act.put, List.setIfInBounds_toArray, List.set_cons_zero, List.set_cons_succ]
  refine wpAnyH_take (i := 4) (oi := ?_) (v := ?_) ?_ (by kernel_rfl) (by kernel_rfl) (by kernel_rfl) ?_ (Or.inl ⟨?_, ?_⟩) (by assumption) ?_
  rotate_left 2
  · (simp only [List.getElem?_toArray, List.getElem?_cons_succ, List.getElem?_cons_zero]; rfl)
  · exact fun _ _ _ h => h
  · rfl
  · (intro w hSw; (try dsimp only at hSw); go_simp; try with_reducible rfl)
  simp only [Act.put, List.setIfInBounds_toArray, List.set_cons_zero, List.set_cons_succ]
  refine wpAnyH_take (i := 5) (oi := ?_) (v := ?_) ?_ (by kernel_rfl) (by kernel_rfl) (by kernel_rfl) ?_ (Or.inl ⟨?_, ?_⟩) (by assumption) ?_
  rotate_left 2
  · (simp only [List.getElem?_toArray, List.getElem?_cons_succ, List.getElem?_cons_zero]; rfl)
  · exact fun _ _ _ h => h
  · rfl
  · (intro w hSw; (try dsimp only at hSw); go_simp; try with_reducible rfl)
  simp only [Act.put, List.setIfInBounds_toArray, List.set_cons_zero, List.set_cons_succ]
  refine wpAnyH_take (i := 6) (oi := ?_) (v := ?_) ?_ (by kernel_rfl) (by kernel_rfl) (by kernel_rfl) ?_ (Or.inl ⟨?_, ?_⟩) (by assumption) ?_
  rotate_left 2
  · (simp only [List.getElem?_toArray, List.getElem?_cons_succ, List.getElem?_cons_zero]; rfl)
  · exact fun _ _ _ h => h
  · rfl
  · (intro w hSw; (try dsimp only at hSw); go_simp; try with_reducible rfl)
  simp only [Act.put, List.setIfInBounds_toArray, List.set_cons_zero, List.set_cons_succ]
  refine wpAnyH_take (i := 7) (oi := ?_) (v := ?_) ?_ (by kernel_rfl) (by kernel_rfl) (by kernel_rfl) ?_ (Or.inl ⟨?_, ?_⟩) (by assumption) ?_
  rotate_left 2
  · (simp only [List.getElem?_toArray, List.getElem?_cons_succ, List.getElem?_cons_zero]; rfl)
  · exact fun _ _ _ h => h
  · rfl
  · (intro w hSw; (try dsimp only at hSw); go_simp; try with_reducible rfl)
  simp only [Act.put, List.setIfInBounds_toArray, List.set_cons_zero, List.set_cons_succ]
  refine wpAnyH_take (i := 8) (oi := ?_) (v := ?_) ?_ (by kernel_rfl) (by kernel_rfl) (by kernel_rfl) ?_ (Or.inl ⟨?_, ?_⟩) (by assumption) ?_
  rotate_left 2
  · (simp only [List.getElem?_toArray, List.getElem?_cons_succ, List.getElem?_cons_zero]; rfl)
  · exact fun _ _ _ h => h
  · rfl
  · (intro w hSw; (try dsimp only at hSw); go_simp; try with_reducible rfl)
  simp only [Act.put, List.setIfInBounds_toArray, List.set_cons_zero, List.set_cons_succ]
  refine wpAnyH_take (i := 9) (oi := ?_) (v := ?_) ?_ (by kernel_rfl) (by kernel_rfl) (by kernel_rfl) ?_ (Or.inl ⟨?_, ?_⟩) (by assumption) ?_
  rotate_left 2
  · (simp only [List.getElem?_toArray, List.getElem?_cons_succ, List.getElem?_cons_zero]; rfl)
  · exact fun _ _ _ h => h
  · rfl
  · (intro w hSw; (try dsimp only at hSw); go_simp; try with_reducible rfl)
  simp only [Act.put, List.setIfInBounds_toArray, List.set_cons_zero, List.set_cons_succ]
  refine wpAnyH_take (i := 10) (oi := ?_) (v := ?_) ?_ (by kernel_rfl) (by kernel_rfl) (by kernel_rfl) ?_ (Or.inl ⟨?_, ?_⟩) (by assumption) ?_
  rotate_left 2
  · (simp only [List.getElem?_toArray, List.getElem?_cons_succ, List.getElem?_cons_zero]; rfl)
  · exact fun _ _ _ h => h
  · rfl
  · (intro w hSw; (try dsimp only at hSw); go_simp; try with_reducible rfl)
  simp only [Act.put, List.setIfInBounds_toArray, List.set_cons_zero, List.set_cons_succ]
  refine wpAnyH_take (i := 11) (oi := ?_) (v := ?_) ?_ (by kernel_rfl) (by kernel_rfl) (by kernel_rfl) ?_ (Or.inl ⟨?_, ?_⟩) (by assumption) ?_
  rotate_left 2
  · (simp only [List.getElem?_toArray, List.getElem?_cons_succ, List.getElem?_cons_zero]; rfl)
  · exact fun _ _ _ h => h
  · rfl
  · (intro w hSw; (try dsimp only at hSw); go_simp; try with_reducible rfl)
  simp only [Act.put, List.setIfInBounds_toArray, List.set_cons_zero, List.set_cons_succ]
  refine wpAnyH_take (i := 12) (oi := ?_) (v := ?_) ?_ (by kernel_rfl) (by kernel_rfl) (by kernel_rfl) ?_ (Or.inl ⟨?_, ?_⟩) (by assumption) ?_
  rotate_left 2
  · (simp only [List.getElem?_toArray, List.getElem?_cons_succ, List.getElem?_cons_zero]; rfl)
  · exact fun _ _ _ h => h
  · rfl
  · (intro w hSw; (try dsimp only at hSw); go_simp; try with_reducible rfl)
  simp only [Act.put, List.setIfInBounds_toArray, List.set_cons_zero, List.set_cons_succ]
  refine wpAnyH_take (i := 13) (oi := ?_) (v := ?_) ?_ (by kernel_rfl) (by kernel_rfl) (by kernel_rfl) ?_ (Or.inl ⟨?_, ?_⟩) (by assumption) ?_
  rotate_left 2
  · (simp only [List.getElem?_toArray, List.getElem?_cons_succ, List.getElem?_cons_zero]; rfl)
  · exact fun _ _ _ h => h
  · rfl
  · (intro w hSw; (try dsimp only at hSw); go_simp; try with_reducible rfl)
  simp only [Act.put, List.setIfInBounds_toArray, List.set_cons_zero, List.set_cons_succ]
  refine wpAnyH_take (i := 14) (oi := ?_) (v := ?_) ?_ (by kernel_rfl) (by kernel_rfl) (by kernel_rfl) ?_ (Or.inl ⟨?_, ?_⟩) (by assumption) ?_
  rotate_left 2
  · (simp only [List.getElem?_toArray, List.getElem?_cons_succ, List.getElem?_cons_zero]; rfl)
  · exact fun _ _ _ h => h
  · rfl
  · (intro w hSw; (try dsimp only at hSw); go_simp; try with_reducible rfl)
  simp only [Act.put, List.setIfInBounds_toArray, List.set_cons_zero, List.set_cons_succ]
  refine wpAnyH_take (i := 15) (oi := ?_) (v := ?_) ?_ (by kernel_rfl) (by kernel_rfl) (by kernel_rfl) ?_ (Or.inl ⟨?_, ?_⟩) (by assumption) ?_
  rotate_left 2
  · (simp only [List.getElem?_toArray, List.getElem?_cons_succ, List.getElem?_cons_zero]; rfl)
  · exact fun _ _ _ h => h
  · rfl
  · (intro w hSw; (try dsimp only at hSw); go_simp; try with_reducible rfl)
  simp only [Act.put, List.setIfInBounds_toArray, List.set_cons_zero, List.set_cons_succ]
  refine wpAnyH_take (i := 16) (oi := ?_) (v := ?_) ?_ (by kernel_rfl) (by kernel_rfl) (by kernel_rfl) ?_ (Or.inl ⟨?_, ?_⟩) (by assumption) ?_
  rotate_left 2
  · (simp only [List.getElem?_toArray, List.getElem?_cons_succ, List.getElem?_cons_zero]; rfl)
  · exact fun _ _ _ h => h
  · rfl
  · (intro w hSw; (try dsimp only at hSw); go_simp; try with_reducible rfl)
  simp only [Act.put, List.setIfInBounds_toArray, List.set_cons_zero, List.set_cons_succ]
  refine wpAnyH_take (i := 17) (oi := ?_) (v := ?_) ?_ (by kernel_rfl) (by kernel_rfl) (by kernel_rfl) ?_ (Or.inl ⟨?_, ?_⟩) (by assumption) ?_
  rotate_left 2
  · (simp only [List.getElem?_toArray, List.getElem?_cons_succ, List.getElem?_cons_zero]; rfl)
  · exact fun _ _ _ h => h
  · rfl
  · (intro w hSw; (try dsimp only at hSw); go_simp; try with_reducible rfl)
  simp only [Act.put, List.setIfInBounds_toArray, List.set_cons_zero, List.set_cons_succ]
  refine wpAnyH_take (i := 18) (oi := ?_) (v := ?_) ?_ (by kernel_rfl) (by kernel_rfl) (by kernel_rfl) ?_ (Or.inl ⟨?_, ?_⟩) (by assumption) ?_
  rotate_left 2
  · (simp only [List.getElem?_toArray, List.getElem?_cons_succ, List.getElem?_cons_zero]; rfl)
  · exact fun _ _ _ h => h
  · rfl
  · (intro w hSw; (try dsimp only at hSw); go_simp; try with_reducible rfl)
  simp only [Act.put, List.setIfInBounds_toArray, List.set_cons_zero, List.set_cons_succ]
  refine wpAnyH_ready (rs := [19]) (by kernel_rfl) (by simp) ?_
  refine AllReadyH.cons rfl (fun K hK => ?_) AllReadyH.nil
  go_simp
  go_at_call 25; refine (rat_any 7 _).mono ?_; rintro e w7 ⟨rfl, hb⟩; replace hB := hB.trans (hb.mono hB.size); clear hb; obtain ⟨p0, p1, p2, p3, p4, p5⟩ := HK.out _ hB
  go_wp2_with fail
  refine hK.out _ _ (by first | exact ⟨p0, p1, p2, p3, p4, p5⟩) (fun hHeld => ?_)
  clear hK K
  try simp only [Act.put, List.setIfInBounds_toArray, List.set_cons_zero, List.set_cons_succ]
  refine wpAnyH_take (i := 20) (oi := ?_) (v := ?_) ?_ (by kernel_rfl) (by kernel_rfl) (by kernel_rfl) ?_ (Or.inl ⟨?_, ?_⟩) (by assumption) ?_
  rotate_left 2
  · (simp only [List.getElem?_toArray, List.getElem?_cons_succ, List.getElem?_cons_zero]; rfl)
  · exact fun _ _ _ h => h
  · rfl
  · (intro w hSw; (try dsimp only at hSw); go_simp; try with_reducible rfl)
  simp only [Act.put, List.setIfInBounds_toArray, List.set_cons_zero, List.set_cons_succ]
  refine wpAnyH_take (i := 21) (oi := ?_) (v := ?_) ?_ (by kernel_rfl) (by kernel_rfl) (by kernel_rfl) ?_ (Or.inl ⟨?_, ?_⟩) (by assumption) ?_
  rotate_left 2
  · (simp only [List.getElem?_toArray, List.getElem?_cons_succ, List.getElem?_cons_zero]; rfl)
  · exact fun _ _ _ h => h
  · rfl
  · (intro w hSw; (try dsimp only at hSw); go_simp; try with_reducible rfl)
  simp only [Act.put, List.setIfInBounds_toArray, List.set_cons_zero, List.set_cons_succ]
  refine wpAnyH_take (i := 22) (oi := ?_) (v := ?_) ?_ (by kernel_rfl) (by kernel_rfl) (by kernel_rfl) ?_ (Or.inl ⟨?_, ?_⟩) (by assumption) ?_
  rotate_left 2
  · (simp only [List.getElem?_toArray, List.getElem?_cons_succ, List.getElem?_cons_zero]; rfl)
  · exact fun _ _ _ h => h
  · rfl
  · (intro w hSw; (try dsimp only at hSw); go_simp; try with_reducible rfl)
  simp only [Act.put, List.setIfInBounds_toArray, List.set_cons_zero, List.set_cons_succ]
  refine wpAnyH_take (i := 23) (oi := ?_) (v := ?_) ?_ (by kernel_rfl) (by kernel_rfl) (by kernel_rfl) ?_ (Or.inl ⟨?_, ?_⟩) (by assumption) ?_
  rotate_left 2
  · (simp only [List.getElem?_toArray, List.getElem?_cons_succ, List.getElem?_cons_zero]; rfl)
  · exact fun _ _ _ h => h
  · rfl
  · (intro w hSw; (try dsimp only at hSw); go_simp; try with_reducible rfl)
  simp only [Act.put, List.setIfInBounds_toArray, List.set_cons_zero, List.set_cons_succ]
  refine wpAnyH_take (i := 24) (oi := ?_) (v := ?_) ?_ (by kernel_rfl) (by kernel_rfl) (by kernel_rfl) ?_ (Or.inl ⟨?_, ?_⟩) (by assumption) ?_
  rotate_left 2
  · (simp only [List.getElem?_toArray, List.getElem?_cons_succ, List.getElem?_cons_zero]; rfl)
  · exact fun _ _ _ h => h
  · rfl
  · (intro w hSw; (try dsimp only at hSw); go_simp; try with_reducible rfl)
  simp only [Act.put, List.setIfInBounds_toArray, List.set_cons_zero, List.set_cons_succ]
  refine wpAnyH_take (i := 25) (oi := ?_) (v := ?_) ?_ (by kernel_rfl) (by kernel_rfl) (by kernel_rfl) ?_ (Or.inl ⟨?_, ?_⟩) (by assumption) ?_
  rotate_left 2
  · (simp only [List.getElem?_toArray, List.getElem?_cons_succ, List.getElem?_cons_zero]; rfl)
  · exact fun _ _ _ h => h
  · rfl
  · (intro w hSw; (try dsimp only at hSw); go_simp; try with_reducible rfl)
  simp only [Act.put, List.setIfInBounds_toArray, List.set_cons_zero, List.set_cons_succ]
  refine wpAnyH_take (i := 26) (oi := ?_) (v := ?_) ?_ (by kernel_rfl) (by kernel_rfl) (by kernel_rfl) ?_ (Or.inl ⟨?_, ?_⟩) (by assumption) ?_
  rotate_left 2
  · (simp only [List.getElem?_toArray, List.getElem?_cons_succ, List.getElem?_cons_zero]; rfl)
  · exact fun _ _ _ h => h
  · rfl
  · (intro w hSw; (try dsimp only at hSw); go_simp; try with_reducible rfl)
  simp only [Act.put, List.setIfInBounds_toArray, List.set_cons_zero, List.set_cons_succ]
  refine wpAnyH_ready (rs := [27]) (by kernel_rfl) (by simp) ?_
  refine AllReadyH.cons rfl (fun K hK => ?_) AllReadyH.nil
  go_simp
  go_at_call 22; refine (rhome_any _).mono ?_; rintro e w8 ⟨rfl, hb⟩; replace hB := hB.trans (hb.mono hB.size); clear hb; obtain ⟨p0, p1, p2, p3, p4, p5⟩ := HK.out _ hB
  go_wp2_with fail
  refine hK.out _ _ (by first | exact ⟨p0, p1, p2, p3, p4, p5⟩) (fun hHeld => ?_)
  clear hK K
  try simp only [Act.put, List.setIfInBounds_toArray, List.set_cons_zero, List.set_cons_succ]
  refine wpAnyH_take (i := 28) (oi := ?_) (v := ?_) ?_ (by kernel_rfl) (by kernel_rfl) (by kernel_rfl) ?_ (Or.inl ⟨?_, ?_⟩) (by assumption) ?_
  rotate_left 2
  · (simp only [List.getElem?_toArray, List.getElem?_cons_succ, List.getElem?_cons_zero]; rfl)
  · exact fun _ _ _ h => h
  · rfl
  · (intro w hSw; (try dsimp only at hSw); go_simp; try with_reducible rfl)
  simp only [Act.put, List.setIfInBounds_toArray, List.set_cons_zero, List.set_cons_succ]
  refine wpAnyH_take (i := 29) (oi := ?_) (v := ?_) ?_ (by kernel_rfl) (by kernel_rfl) (by kernel_rfl) ?_ (Or.inl ⟨?_, ?_⟩) (by assumption) ?_
  rotate_left 2
  · (simp only [List.getElem?_toArray, List.getElem?_cons_succ, List.getElem?_cons_zero]; rfl)
  · exact fun _ _ _ h => h
  · rfl
  · (intro w hSw; (try dsimp only at hSw); go_simp; try with_reducible rfl)
  simp only [Act.put, List.setIfInBounds_toArray, List.set_cons_zero, List.set_cons_succ]
  refine wpAnyH_take (i := 30) (oi := ?_) (v := ?_) ?_ (by kernel_rfl) (by kernel_rfl) (by kernel_rfl) ?_ (Or.inl ⟨?_, ?_⟩) (by assumption) ?_
  rotate_left 2
  · (simp only [List.getElem?_toArray, List.getElem?_cons_succ, List.getElem?_cons_zero]; rfl)
  · exact fun _ _ _ h => h
  · rfl
  · (intro w hSw; (try dsimp only at hSw); go_simp; try with_reducible rfl)
  simp only [Act.put, List.setIfInBounds_toArray, List.set_cons_zero, List.set_cons_succ]
  refine wpAnyH_take (i := 31) (oi := ?_) (v := ?_) ?_ (by kernel_rfl) (by kernel_rfl) (by kernel_rfl) ?_ (Or.inl ⟨?_, ?_⟩) (by assumption) ?_
  rotate_left 2
  · (simp only [List.getElem?_toArray, List.getElem?_cons_succ, List.getElem?_cons_zero]; rfl)
  · exact fun _ _ _ h => h
  · rfl
  · (intro w hSw; (try dsimp only at hSw); go_simp; try with_reducible rfl)
  simp only [Act.put, List.setIfInBounds_toArray, List.set_cons_zero, List.set_cons_succ]
  refine wpAnyH_take (i := 32) (oi := ?_) (v := ?_) ?_ (by kernel_rfl) (by kernel_rfl) (by kernel_rfl) ?_ (Or.inl ⟨?_, ?_⟩) (by assumption) ?_
  rotate_left 2
  · (simp only [List.getElem?_toArray, List.getElem?_cons_succ, List.getElem?_cons_zero]; rfl)
  · exact fun _ _ _ h => h
  · rfl
  · (intro w hSw; (try dsimp only at hSw); go_simp; try with_reducible rfl)
  simp only [Act.put, List.setIfInBounds_toArray, List.set_cons_zero, List.set_cons_succ]
  refine wpAnyH_take (i := 33) (oi := ?_) (v := ?_) ?_ (by kernel_rfl) (by kernel_rfl) (by kernel_rfl) ?_ (Or.inl ⟨?_, ?_⟩) (by assumption) ?_
  rotate_left 2
  · (simp only [List.getElem?_toArray, List.getElem?_cons_succ, List.getElem?_cons_zero]; rfl)
  · exact fun _ _ _ h => h
  · rfl
  · (intro w hSw; (try dsimp only at hSw); go_simp; try with_reducible rfl)
  simp only [Act.put, List.setIfInBounds_toArray, List.set_cons_zero, List.set_cons_succ]
  refine wpAnyH_take (i := 34) (oi := ?_) (v := ?_) ?_ (by kernel_rfl) (by kernel_rfl) (by kernel_rfl) ?_ (Or.inl ⟨?_, ?_⟩) (by assumption) ?_
  rotate_left 2
  · (simp only [List.getElem?_toArray, List.getElem?_cons_succ, List.getElem?_cons_zero]; rfl)
  · exact fun _ _ _ h => h
  · rfl
  · (intro w hSw; (try dsimp only at hSw); go_simp; try with_reducible rfl)
  simp only [Act.put, List.setIfInBounds_toArray, List.set_cons_zero, List.set_cons_succ]
  refine wpAnyH_ready (rs := [35]) (by kernel_rfl) (by simp) ?_
  refine AllReadyH.cons rfl (fun K hK => ?_) AllReadyH.nil
  go_simp
  go_at_call 25; refine (rat_any 9 _).mono ?_; rintro e w9 ⟨rfl, hb⟩; replace hB := hB.trans (hb.mono hB.size); clear hb; obtain ⟨p0, p1, p2, p3, p4, p5⟩ := HK.out _ hB
  go_wp2_with fail
  refine hK.out _ _ (by first | exact ⟨p0, p1, p2, p3, p4, p5⟩) (fun hHeld => ?_)
  clear hK K
  try simp only [Act.put, List.setIfInBounds_toArray, List.set_cons_zero, List.set_cons_succ]
  refine wpAnyH_take (i := 36) (oi := ?_) (v := ?_) ?_ (by kernel_rfl) (by kernel_rfl) (by kernel_rfl) ?_ (Or.inl ⟨?_, ?_⟩) (by assumption) ?_
  rotate_left 2
  · (simp only [List.getElem?_toArray, List.getElem?_cons_succ, List.getElem?_cons_zero]; rfl)
  · exact fun _ _ _ h => h
  · rfl
  · (intro w hSw; (try dsimp only at hSw); go_simp; try with_reducible rfl)
  simp only [Act.put, List.setIfInBounds_toArray, List.set_cons_zero, List.set_cons_succ]
  refine wpAnyH_take (i := 37) (oi := ?_) (v := ?_) ?_ (by kernel_rfl) (by kernel_rfl) (by kernel_rfl) ?_ (Or.inl ⟨?_, ?_⟩) (by assumption) ?_
  rotate_left 2
  · (simp only [List.getElem?_toArray, List.getElem?_cons_succ, List.getElem?_cons_zero]; rfl)
  · exact fun _ _ _ h => h
  · rfl
  · (intro w hSw; (try dsimp only at hSw); go_simp; try with_reducible rfl)
  simp only [Act.put, List.setIfInBounds_toArray, List.set_cons_zero, List.set_cons_succ]
  refine wpAnyH_take (i := 38) (oi := ?_) (v := ?_) ?_ (by kernel_rfl) (by kernel_rfl) (by kernel_rfl) ?_ (Or.inl ⟨?_, ?_⟩) (by assumption) ?_
  rotate_left 2
  · (simp only [List.getElem?_toArray, List.getElem?_cons_succ, List.getElem?_cons_zero]; rfl)
  · exact fun _ _ _ h => h
  · rfl
  · (intro w hSw; (try dsimp only at hSw); go_simp; try with_reducible rfl)
  simp only [Act.put, List.setIfInBounds_toArray, List.set_cons_zero]
  refine wpAnyH_done (by kernel_rfl) ?_ _
  go_wp2_with fail
  go_ret
  exact ⟨rfl, HB4.out.trans (hB.mono HB4.out.size)⟩
end Go.Proofs.YtbhkfemebionnaaGreatDoor
