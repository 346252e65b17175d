/- Lemmas and contracts of functions, joined for the claim: LkPC, LkPL, LkPF, LkPQ, LkPG, LkPH. -/
import Derived.Test.YtbhkfemebionnaaGreatDoorMPmA
namespace Go.Proofs.YtbhkfemebionnaaGreatDoor
open Go.RowKit

set_option maxRecDepth 100000 in
set_option maxHeartbeats 16000000 in
theorem ncue_any (num lab : ByteArray) (MA : Option Addr) (mn mc : Nat) (PA : Option Addr) (pn pc : Nat) (blk mrk : Bool) (fol : Int) (lnk : ByteArray) (lps : Int) (ms : List Mv) (ts : List Tm) (w : World) (hx : CV.In w ⟨⟨num, lab, MA, mn, mc, PA, pn, pc, blk, mrk, fol, lnk, lps⟩, ms, ts⟩) (hok : CuOK ⟨⟨num, lab, MA, mn, mc, PA, pn, pc, blk, mrk, fol, lnk, lps⟩, ms, ts⟩) (hs1 : num.size ≤ 9223372036854775807) (hs2 : lnk.size ≤ 9223372036854775807) (hc : mn ≤ mc) (hmn : mn ≤ 9223372036854775807) :
    Calls Tryz.prog 26 #[.agg #[.string num, .string lab, .slice MA mn mc, .slice PA pn pc, .bool blk, .bool mrk, .int .i64 fol, .string lnk, .int .i64 lps]] w fun e w' => e = .returned (.int .i64 0) ∧ Below w.heap.size w w' := by
  have hx1 : shMv.In w MA mn ms := hx.1
  have hx2 : shTm.In w PA pn ts := hx.2
  clear hx
  have H1 := Lib.hid (fun V => nck1_any num lab MA mn mc PA pn pc blk mrk fol lnk lps hs1 hok.num V)
  have H2 := Lib.hid (fun V => nck2_any num lab MA mn mc PA pn pc blk mrk fol lnk lps hok.lab V)
  have H3 := Lib.hid (fun V (h : Below w.heap.size w V) => nck3_any num lab MA mn mc PA pn pc blk mrk fol lnk lps ms hok.ms hc V (hx1.below h))
  have H4 := Lib.hid (fun V (h : Below w.heap.size w V) => nparts_any num lab MA mn mc PA pn pc blk mrk fol lnk lps ms ts V (hx1.below h) (hx2.below h) hok.t1 hok.t4 hok.ts hok.pt hmn)
  have H5 := Lib.hid (fun V => nnext_any num lab MA mn mc PA pn pc blk mrk fol lnk lps V hs2 ⟨hok.fol, hok.lnk, hok.lps, hok.use⟩)
  clear hx1 hx2 hok hs1 hs2 hc hmn
  obtain ⟨W0, hW0⟩ : ∃ W, W = w.alloc (.cells #[.string num, .string lab, .slice MA mn mc, .slice PA pn pc, .bool blk, .bool mrk, .int .i64 fol, .string lnk, .int .i64 lps] 34) := ⟨_, rfl⟩
  have hB0 : Below w.heap.size w W0 := by rw [hW0]; exact (Below.refl _ _).alloc (Nat.le_refl _) _
  have hcW : Cells W0 w.heap.size [.string num, .string lab, .slice MA mn mc, .slice PA pn pc, .bool blk, .bool mrk, .int .i64 fol, .string lnk, .int .i64 lps] := by rw [hW0]; exact Cells.fresh w [.string num, .string lab, .slice MA mn mc, .slice PA pn pc, .bool blk, .bool mrk, .int .i64 fol, .string lnk, .int .i64 lps] _
  obtain ⟨W, hW⟩ : ∃ W, W = W0.alloc (.cells #[.func (.func 47) #[] #[], .func (.func 49) #[] #[], .func (.func 51) #[] #[], .func (.func 53) #[] #[], .func (.func 54) #[] #[]] 68) := ⟨_, rfl⟩
  have hB1 : Below W0.heap.size W0 W := by rw [hW]; exact (Below.refl _ _).alloc (Nat.le_refl _) _
  have hcF : Cells W W0.heap.size [.func (.func 47) #[] #[], .func (.func 49) #[] #[], .func (.func 51) #[] #[], .func (.func 53) #[] #[], .func (.func 54) #[] #[]] := by rw [hW]; exact Cells.fresh W0 [.func (.func 47) #[] #[], .func (.func 49) #[] #[], .func (.func 51) #[] #[], .func (.func 53) #[] #[], .func (.func 54) #[] #[]] _
  have hs0 : W0.heap.size = w.heap.size + 1 := by rw [hW0]; simp
  rw [hs0] at hcF
  have hcW2 := hcW.below hB1 hcW.1
  have HK := Lib.hid (show ∀ V, Below W.heap.size W V → V.cell? ⟨w.heap.size, 0, none⟩ = some (.string num) ∧ V.cell? ⟨w.heap.size, 1, none⟩ = some (.string lab) ∧ V.cell? ⟨w.heap.size, 2, none⟩ = some (.slice MA mn mc) ∧ V.cell? ⟨w.heap.size, 3, none⟩ = some (.slice PA pn pc) ∧ V.cell? ⟨w.heap.size, 4, none⟩ = some (.bool blk) ∧ V.cell? ⟨w.heap.size, 5, none⟩ = some (.bool mrk) ∧ V.cell? ⟨w.heap.size, 6, none⟩ = some (.int .i64 fol) ∧ V.cell? ⟨w.heap.size, 7, none⟩ = some (.string lnk) ∧ V.cell? ⟨w.heap.size, 8, none⟩ = some (.int .i64 lps) ∧ w.heap.size < V.heap.size from fun V h => by
    have hc := hcW2.below h hcW2.1
    exact ⟨hc.at_ (j := 0) rfl, hc.at_ (j := 1) rfl, hc.at_ (j := 2) rfl, hc.at_ (j := 3) rfl, hc.at_ (j := 4) rfl, hc.at_ (j := 5) rfl, hc.at_ (j := 6) rfl, hc.at_ (j := 7) rfl, hc.at_ (j := 8) rfl, hc.1⟩)
  have HFc := Lib.hid hcF
  have HB0 := Lib.hid (hB0.trans (hB1.mono hB0.size))
  rw [hW0] at hW
  have HW := Lib.hid hW
  clear hW0 hW hB0 hB1 hcW hcF hs0 hcW2
  have e0 := enters_of Tryz.func47 (by kernel_rfl) rfl
  have e1 := enters_of Tryz.func49 (by kernel_rfl) rfl
  have e2 := enters_of Tryz.func51 (by kernel_rfl) rfl
  have e3 := enters_of Tryz.func53 (by kernel_rfl) rfl
  have e4 := enters_of Tryz.func54 (by kernel_rfl) rfl
  go_enter Tryz.func26, Tryz.ntmps26
  go_wp2_with fail
  rw [← HW.out]
  go_loopw [8] (fun iv wr => ∃ k : Nat, k ≤ 5 ∧ iv = .int .i64 k ∧ Below W.heap.size W wr) (fun iv _ => 5 - (intOf iv).toNat)
  case atStart => exact ⟨0, by omega, rfl, Below.refl _ _⟩
  case round =>
    obtain ⟨k, hk, rfl, hB⟩ := hrel
    obtain ⟨c0, c1, c2, c3, c4, c5, c6, c7, c8, hsz⟩ := HK.out _ hB
    have hBw := Lib.hid (HB0.out.trans (hB.mono HB0.out.size))
    have hbw : w.heap.size + 1 < wr.heap.size := Nat.lt_of_lt_of_le HFc.out.1 hB.size
    have HB := Lib.hid hB
    obtain rfl | rfl | rfl | rfl | rfl | rfl : k = 0 ∨ k = 1 ∨ k = 2 ∨ k = 3 ∨ k = 4 ∨ k = 5 := by omega
    · have d0 := (hB.cell (p := ⟨w.heap.size + 1, 0, none⟩) HFc.out.1).trans (HFc.out.at_ (j := 0) rfl)
      have hcl := H1.out wr
      clear hB
      go_wp2_with (go_at_call 47; with_reducible refine hcl.mono ?_; rintro e w7 ⟨rfl, hb7⟩)
      go_roundw
      case rel => exact ⟨1, by omega, by go_num, HB.out.trans (hb7.mono HB.out.size)⟩
      case measure => simp [intOf]
    · have d0 := (hB.cell (p := ⟨w.heap.size + 1, 1, none⟩) HFc.out.1).trans (HFc.out.at_ (j := 1) rfl)
      have hcl := H2.out wr
      clear hB
      go_wp2_with (go_at_call 49; with_reducible refine hcl.mono ?_; rintro e w7 ⟨rfl, hb7⟩)
      go_roundw
      case rel => exact ⟨2, by omega, by go_num, HB.out.trans (hb7.mono HB.out.size)⟩
      case measure => simp [intOf]
    · have d0 := (hB.cell (p := ⟨w.heap.size + 1, 2, none⟩) HFc.out.1).trans (HFc.out.at_ (j := 2) rfl)
      have hcl := H3.out wr hBw.out
      clear hB
      go_wp2_with (go_at_call 51; with_reducible refine hcl.mono ?_; rintro e w7 ⟨rfl, hb7⟩)
      go_roundw
      case rel => exact ⟨3, by omega, by go_num, HB.out.trans (hb7.mono HB.out.size)⟩
      case measure => simp [intOf]
    · have d0 := (hB.cell (p := ⟨w.heap.size + 1, 3, none⟩) HFc.out.1).trans (HFc.out.at_ (j := 3) rfl)
      have hcl := H4.out wr hBw.out
      clear hB
      go_wp2_with (go_at_call 53; with_reducible refine hcl.mono ?_; rintro e w7 ⟨rfl, hb7⟩)
      go_roundw
      case rel => exact ⟨4, by omega, by go_num, HB.out.trans (hb7.mono HB.out.size)⟩
      case measure => simp [intOf]
    · have d0 := (hB.cell (p := ⟨w.heap.size + 1, 4, none⟩) HFc.out.1).trans (HFc.out.at_ (j := 4) rfl)
      have hcl := H5.out wr
      clear hB
      go_wp2_with (go_at_call 54; with_reducible refine hcl.mono ?_; rintro e w7 ⟨rfl, hb7⟩)
      go_roundw
      case rel => exact ⟨5, by omega, by go_num, HB.out.trans (hb7.mono HB.out.size)⟩
      case measure => simp [intOf]
    · go_wp2_with fail
      go_ret
      exact ⟨rfl, hBw.out⟩
end Go.Proofs.YtbhkfemebionnaaGreatDoor

namespace Go.Proofs.YtbhkfemebionnaaGreatDoor
open Go.RowKit

def CV.fitS (x : CV) : Prop := x.c.num.size ≤ 9223372036854775807 ∧ x.c.lnk.size ≤ 9223372036854775807 ∧ x.c.mn ≤ x.c.mc ∧ x.c.mn ≤ 9223372036854775807
set_option maxRecDepth 100000 in
set_option maxHeartbeats 32000000 in
theorem nlist_any (no pri : Int) (A : Option Addr) (n c : Nat) (X : List CV) (w : World) (hX : InC w A n X) (hs : ∀ x ∈ X, x.fitS) (hok : LsOK no pri X) :
    Calls Tryz.prog 30 #[.agg #[.int .i64 no, .int .i64 pri, .slice A n c]] w fun e w' => e = .returned (.int .i64 0) ∧ Below w.heap.size w w' := by
  have hn : n = X.length := hX.len
  subst hn
  obtain ⟨n1, n2⟩ := hok.no
  obtain ⟨p1, p2⟩ := hok.pri
  have h1 : ¬ no < 1 := by omega
  have h2 : ¬ 1048576 < no := by omega
  have h3 : ¬ pri < 0 := by omega
  have h4 : ¬ 9 < pri := by omega
  have h5 : ¬ (64 : Int) < (X.length : Int) := by have := hok.few; omega
  obtain ⟨W, hW⟩ : ∃ W, W = w.alloc (.cells #[.int .i64 no, .int .i64 pri, .slice A X.length c] 24) := ⟨_, rfl⟩
  have hB0 : Below w.heap.size w W := by rw [hW]; exact (Below.refl _ _).alloc (Nat.le_refl _) _
  have hcW : Cells W w.heap.size [.int .i64 no, .int .i64 pri, .slice A X.length c] := by rw [hW]; exact Cells.fresh w [.int .i64 no, .int .i64 pri, .slice A X.length c] _
  have HK := Lib.hid (show ∀ V, Below W.heap.size W V → V.cell? ⟨w.heap.size, 0, none⟩ = some (.int .i64 no) ∧ V.cell? ⟨w.heap.size, 1, none⟩ = some (.int .i64 pri) ∧ V.cell? ⟨w.heap.size, 2, none⟩ = some (.slice A X.length c) ∧ w.heap.size < V.heap.size from fun V h => by
    have hc := hcW.below h hcW.1
    exact ⟨hc.at_ (j := 0) rfl, hc.at_ (j := 1) rfl, hc.at_ (j := 2) rfl, hc.1⟩)
  have HW := Lib.hid hW
  have HB0 := Lib.hid hB0
  have HX := Lib.hid (hX.below hB0)
  have HS := Lib.hid hs
  have HOk := Lib.hid hok
  clear hW hB0 hcW hX hs hok n1 n2 p1 p2
  go_enter Tryz.func30, Tryz.ntmps30
  go_wp2_with fail
  rw [← HW.out]
  go_loopw [33] (fun iv wr => ∃ k : Nat, k ≤ X.length ∧ iv = .int .i64 k ∧ Below W.heap.size W wr) (fun iv _ => X.length - (intOf iv).toNat)
  case atStart => exact ⟨0, Nat.zero_le _, rfl, Below.refl _ _⟩
  case round =>
    obtain ⟨k, hk, rfl, hB⟩ := hrel
    by_cases hlt : k < X.length
    · have i0 : (0 : Int) ≤ (k : Int) := by omega
      have i1 : (k : Int) < (X.length : Int) := by omega
      have w0 : IntKind.i64.wrap ((k : Int) + 1) = (k : Int) + 1 := IntWalk.i64_in _ (by have := HOk.out.few; omega)
      obtain ⟨b, o, rfl, hbl, hcell⟩ := cu_at HX.out (by omega)
      have hXk := HX.out.2 X[k] (List.getElem_mem hlt)
      have hfk := HS.out X[k] (List.getElem_mem hlt)
      have hok := HOk.out.ok X[k] (List.getElem_mem hlt)
      have HQ := Lib.hid (show 0 < k → ∃ y : ByteArray, y.size ≤ 9223372036854775807 ∧ numE y.data.toList = 0 ∧ (∀ V, Below W.heap.size W V → V.cell? ⟨b, o + (k - 1) * 9, none⟩ = some (.string y)) ∧ numV y.data.toList < numV X[k].c.num.data.toList from fun h0 => ⟨(X[k - 1]'(by omega)).c.num, (HS.out _ (List.getElem_mem _)).1, (HOk.out.ok _ (List.getElem_mem _)).num, fun V hV => (hV.cell (p := ⟨b, o + (k - 1) * 9, none⟩) hbl).trans (hcell (k - 1) (by omega)).1, List.pairwise_iff_getElem.1 HOk.out.up (k - 1) k (by omega) hlt (by omega)⟩)
      have hck := hcell k hlt
      generalize X[k] = x at *
      obtain ⟨⟨num, lab, MA, mn, mc, PA, pn, pc, blk, mrk, fol, lnk, lps⟩, ms, ts⟩ := x
      obtain ⟨q0, q1, q2, q3, q4, q5, q6, q7, q8⟩ := hck
      have p0 := (hB.cell (p := ⟨b, o + k * 9, none⟩) hbl).trans q0
      have p1 := (hB.cell (p := ⟨b, o + k * 9 + 1, none⟩) hbl).trans q1
      have p2 := (hB.cell (p := ⟨b, o + k * 9 + 2, none⟩) hbl).trans q2
      have p3 := (hB.cell (p := ⟨b, o + k * 9 + 3, none⟩) hbl).trans q3
      have p4 := (hB.cell (p := ⟨b, o + k * 9 + 4, none⟩) hbl).trans q4
      have p5 := (hB.cell (p := ⟨b, o + k * 9 + 5, none⟩) hbl).trans q5
      have p6 := (hB.cell (p := ⟨b, o + k * 9 + 6, none⟩) hbl).trans q6
      have p7 := (hB.cell (p := ⟨b, o + k * 9 + 7, none⟩) hbl).trans q7
      have p8 := (hB.cell (p := ⟨b, o + k * 9 + 8, none⟩) hbl).trans q8
      have hbw := Nat.lt_of_lt_of_le hbl hB.size
      obtain ⟨c0, c1, c2, hsz⟩ := HK.out _ hB
      obtain ⟨V0, hV0⟩ : ∃ V0, V0 = wr.alloc (.cells #[.string num, .string lab, .slice MA mn mc, .slice PA pn pc, .bool blk, .bool mrk, .int .i64 fol, .string lnk, .int .i64 lps] 34) := ⟨_, rfl⟩
      have hb0 : Below wr.heap.size wr V0 := by rw [hV0]; exact (Below.refl _ _).alloc (Nat.le_refl _) _
      have hcV : Cells V0 wr.heap.size [.string num, .string lab, .slice MA mn mc, .slice PA pn pc, .bool blk, .bool mrk, .int .i64 fol, .string lnk, .int .i64 lps] := by rw [hV0]; exact Cells.fresh wr [.string num, .string lab, .slice MA mn mc, .slice PA pn pc, .bool blk, .bool mrk, .int .i64 fol, .string lnk, .int .i64 lps] _
      have HR := Lib.hid (show ∀ V, Below V0.heap.size V0 V → V.cell? ⟨wr.heap.size, 0, none⟩ = some (.string num) ∧ V.cell? ⟨wr.heap.size, 1, none⟩ = some (.string lab) ∧ V.cell? ⟨wr.heap.size, 2, none⟩ = some (.slice MA mn mc) ∧ V.cell? ⟨wr.heap.size, 3, none⟩ = some (.slice PA pn pc) ∧ V.cell? ⟨wr.heap.size, 4, none⟩ = some (.bool blk) ∧ V.cell? ⟨wr.heap.size, 5, none⟩ = some (.bool mrk) ∧ V.cell? ⟨wr.heap.size, 6, none⟩ = some (.int .i64 fol) ∧ V.cell? ⟨wr.heap.size, 7, none⟩ = some (.string lnk) ∧ V.cell? ⟨wr.heap.size, 8, none⟩ = some (.int .i64 lps) ∧ wr.heap.size < V.heap.size from fun V h => by
        have hc := hcV.below h hcV.1
        exact ⟨hc.at_ (j := 0) rfl, hc.at_ (j := 1) rfl, hc.at_ (j := 2) rfl, hc.at_ (j := 3) rfl, hc.at_ (j := 4) rfl, hc.at_ (j := 5) rfl, hc.at_ (j := 6) rfl, hc.at_ (j := 7) rfl, hc.at_ (j := 8) rfl, hc.1⟩)
      have HV0 := Lib.hid hV0
      have HBV := Lib.hid (hB.trans (hb0.mono hB.size))
      have hD := Below.refl V0.heap.size V0
      have HCu := Lib.hid (fun V (h : Below V0.heap.size V0 V) => ncue_any num lab MA mn mc PA pn pc blk mrk fol lnk lps ms ts V (hXk.below (HBV.out.trans (h.mono HBV.out.size))) hok hfk.1 hfk.2.1 hfk.2.2.1 hfk.2.2.2)
      have HNu := Lib.hid (show num.size ≤ 9223372036854775807 ∧ numE num.data.toList = 0 from ⟨hfk.1, hok.num⟩)
      clear hV0 hb0 hcV hcell hXk hfk hok q0 q1 q2 q3 q4 q5 q6 q7 q8
      go_wp2_with fail
      rw [← HV0.out]
      clear p0 p1 p2 p3 p4 p5 p6 p7 p8 c0 c1 c2 hsz hbw
      obtain ⟨r0, r1, r2, r3, r4, r5, r6, r7, r8, hrz⟩ := HR.out _ hD
      try go_wp2_with fail
      refine (HCu.out _ hD).mono ?_
      rintro e w5 ⟨rfl, hb⟩
      replace hD := hD.trans (hb.mono hD.size)
      clear hb r0 r1 r2 r3 r4 r5 r6 r7 r8 hrz
      by_cases hk0 : 0 < k
      rotate_left
      · have gk : ¬ (0 : Int) < (k : Int) := by omega
        go_wp2_with fail
        replace hD := below_drewN hD 1
        refine wp_region_held_drew (S := fun _ => True) (by kernel_rfl) (by first | exact trivial) (fun hHeld => ?_)
        refine wpAnyH_take (i := 0) (oi := ?_) (v := ?_) ?_ (by kernel_rfl) (by kernel_rfl) (by kernel_rfl) ?_ (Or.inl ⟨?_, ?_⟩) (by assumption) ?_
        rotate_left 2
        · (simp only [List.getElem?_toArray, List.getElem?_cons_zero]; rfl)
        · exact fun _ _ _ h => h
        · rfl
        · (intro w hSw; (try dsimp only at hSw); go_simp; try with_reducible rfl)
        simp only [Act.put, List.setIfInBounds_toArray, List.set_cons_zero, List.set_cons_succ]
        refine wpAnyH_take (i := 1) (oi := ?_) (v := ?_) ?_ (by kernel_rfl) (by kernel_rfl) (by kernel_rfl) ?_ (Or.inl ⟨?_, ?_⟩) (by assumption) ?_
        rotate_left 2
        · (simp only [List.getElem?_toArray, List.getElem?_cons_succ, List.getElem?_cons_zero]; rfl)
        · exact fun _ _ _ h => h
        · rfl
        · (intro w hSw; (try dsimp only at hSw); go_simp; try with_reducible rfl)
        simp only [Act.put, List.setIfInBounds_toArray, List.set_cons_zero, List.set_cons_succ]
        refine wpAnyH_take (i := 2) (oi := ?_) (v := ?_) ?_ (by kernel_rfl) (by kernel_rfl) (by kernel_rfl) ?_ (Or.inl ⟨?_, ?_⟩) (by assumption) ?_
        rotate_left 2
        · (simp only [List.getElem?_toArray, List.getElem?_cons_succ, List.getElem?_cons_zero]; rfl)
        · exact fun _ _ _ h => h
        · rfl
        · (intro w hSw; (try dsimp only at hSw); go_simp; try with_reducible rfl)
        simp only [Act.put, List.setIfInBounds_toArray, List.set_cons_zero, List.set_cons_succ]
        refine wpAnyH_take (i := 3) (oi := ?_) (v := undef) ?_ (by kernel_rfl) (by kernel_rfl) (by kernel_rfl) ?_ (Or.inr ⟨?_, rfl⟩) (by assumption) ?_
        rotate_left 1
        · (simp only [List.getElem?_toArray, List.getElem?_cons_succ, List.getElem?_cons_zero]; rfl)
        · exact fun _ _ _ h => h
        · rfl
        simp only [Act.put, List.setIfInBounds_toArray, List.set_cons_zero, List.set_cons_succ]
        refine wpAnyH_take (i := 4) (oi := ?_) (v := undef) ?_ (by kernel_rfl) (by kernel_rfl) (by kernel_rfl) ?_ (Or.inr ⟨?_, rfl⟩) (by assumption) ?_
        rotate_left 1
        · (simp only [List.getElem?_toArray, List.getElem?_cons_succ, List.getElem?_cons_zero]; rfl)
        · exact fun _ _ _ h => h
        · rfl
        simp only [Act.put, List.setIfInBounds_toArray, List.set_cons_zero, List.set_cons_succ]
        refine wpAnyH_take (i := 5) (oi := ?_) (v := undef) ?_ (by kernel_rfl) (by kernel_rfl) (by kernel_rfl) ?_ (Or.inr ⟨?_, rfl⟩) (by assumption) ?_
        rotate_left 1
        · (simp only [List.getElem?_toArray, List.getElem?_cons_succ, List.getElem?_cons_zero]; rfl)
        · exact fun _ _ _ h => h
        · rfl
        simp only [Act.put, List.setIfInBounds_toArray, List.set_cons_zero, List.set_cons_succ]
        refine wpAnyH_take (i := 6) (oi := ?_) (v := undef) ?_ (by kernel_rfl) (by kernel_rfl) (by kernel_rfl) ?_ (Or.inr ⟨?_, rfl⟩) (by assumption) ?_
        rotate_left 1
        · (simp only [List.getElem?_toArray, List.getElem?_cons_succ, List.getElem?_cons_zero]; rfl)
        · exact fun _ _ _ h => h
        · rfl
        simp only [Act.put, List.setIfInBounds_toArray, List.set_cons_zero, List.set_cons_succ]
        refine wpAnyH_take (i := 7) (oi := ?_) (v := undef) ?_ (by kernel_rfl) (by kernel_rfl) (by kernel_rfl) ?_ (Or.inr ⟨?_, rfl⟩) (by assumption) ?_
        rotate_left 1
        · (simp only [List.getElem?_toArray, List.getElem?_cons_succ, List.getElem?_cons_zero]; rfl)
        · exact fun _ _ _ h => h
        · rfl
        simp only [Act.put, List.setIfInBounds_toArray, List.set_cons_zero, List.set_cons_succ]
        refine wpAnyH_take (i := 8) (oi := ?_) (v := undef) ?_ (by kernel_rfl) (by kernel_rfl) (by kernel_rfl) ?_ (Or.inr ⟨?_, rfl⟩) (by assumption) ?_
        rotate_left 1
        · (simp only [List.getElem?_toArray, List.getElem?_cons_succ, List.getElem?_cons_zero]; rfl)
        · exact fun _ _ _ h => h
        · rfl
        simp only [Act.put, List.setIfInBounds_toArray, List.set_cons_zero, List.set_cons_succ]
        refine wpAnyH_take (i := 9) (oi := ?_) (v := undef) ?_ (by kernel_rfl) (by kernel_rfl) (by kernel_rfl) ?_ (Or.inr ⟨?_, rfl⟩) (by assumption) ?_
        rotate_left 1
        · (simp only [List.getElem?_toArray, List.getElem?_cons_succ, List.getElem?_cons_zero]; rfl)
        · exact fun _ _ _ h => h
        · rfl
        simp only [Act.put, List.setIfInBounds_toArray, List.set_cons_zero, List.set_cons_succ]
        refine wpAnyH_take (i := 10) (oi := ?_) (v := undef) ?_ (by kernel_rfl) (by kernel_rfl) (by kernel_rfl) ?_ (Or.inr ⟨?_, rfl⟩) (by assumption) ?_
        rotate_left 1
        · (simp only [List.getElem?_toArray, List.getElem?_cons_succ, List.getElem?_cons_zero]; rfl)
        · exact fun _ _ _ h => h
        · rfl
        simp only [Act.put, List.setIfInBounds_toArray, List.set_cons_zero, List.set_cons_succ]
        refine wpAnyH_take (i := 11) (oi := ?_) (v := undef) ?_ (by kernel_rfl) (by kernel_rfl) (by kernel_rfl) ?_ (Or.inr ⟨?_, rfl⟩) (by assumption) ?_
        rotate_left 1
        · (simp only [List.getElem?_toArray, List.getElem?_cons_succ, List.getElem?_cons_zero]; rfl)
        · exact fun _ _ _ h => h
        · rfl
        simp only [Act.put, List.setIfInBounds_toArray, List.set_cons_zero, List.set_cons_succ]
        refine wpAnyH_take (i := 12) (oi := ?_) (v := undef) ?_ (by kernel_rfl) (by kernel_rfl) (by kernel_rfl) ?_ (Or.inr ⟨?_, rfl⟩) (by assumption) ?_
        rotate_left 1
        · (simp only [List.getElem?_toArray, List.getElem?_cons_succ, List.getElem?_cons_zero]; rfl)
        · exact fun _ _ _ h => h
        · rfl
        simp only [Act.put, List.setIfInBounds_toArray, List.set_cons_zero, List.set_cons_succ]
        refine wpAnyH_take (i := 13) (oi := ?_) (v := undef) ?_ (by kernel_rfl) (by kernel_rfl) (by kernel_rfl) ?_ (Or.inr ⟨?_, rfl⟩) (by assumption) ?_
        rotate_left 1
        · (simp only [List.getElem?_toArray, List.getElem?_cons_succ, List.getElem?_cons_zero]; rfl)
        · exact fun _ _ _ h => h
        · rfl
        simp only [Act.put, List.setIfInBounds_toArray, List.set_cons_zero, List.set_cons_succ]
        refine wpAnyH_take (i := 14) (oi := ?_) (v := ?_) ?_ (by kernel_rfl) (by kernel_rfl) (by kernel_rfl) ?_ (Or.inl ⟨?_, ?_⟩) (by assumption) ?_
        rotate_left 2
        · (simp only [List.getElem?_toArray, List.getElem?_cons_succ, List.getElem?_cons_zero]; rfl)
        · exact fun _ _ _ h => h
        · rfl
        · (intro w hSw; (try dsimp only at hSw); go_simp; try with_reducible rfl)
        simp only [Act.put, List.setIfInBounds_toArray, List.set_cons_zero, List.set_cons_succ]
        refine wpAnyH_done (by kernel_rfl) ?_ _
        go_wp2_with fail
        go_roundw
        case rel => exact ⟨k + 1, by omega, by go_num, HBV.out.trans (hD.mono HBV.out.size)⟩
        case measure => simp [intOf]; omega
      · have gk : (0 : Int) < (k : Int) := by omega
        have w1 : IntKind.i64.wrap ((k : Int) - 1) = (k : Int) - 1 := IntWalk.i64_in _ (by have := HOk.out.few; omega)
        have j0 : (0 : Int) ≤ (k : Int) - 1 := by omega
        have j0b : (1 : Int) ≤ (k : Int) := by omega
        have j1 : (k : Int) - 1 < (X.length : Int) := by omega
        have jn : ((k : Int) - 1).toNat = k - 1 := by omega
        obtain ⟨ny, y1, y2, y3, y4⟩ := HQ.out hk0
        have HQy := Lib.hid (show ∀ V, Below V0.heap.size V0 V → V.cell? ⟨b, o + (k - 1) * 9, none⟩ = some (.string ny) ∧ b < V.heap.size from fun V h => ⟨y3 V (HBV.out.trans (h.mono HBV.out.size)), Nat.lt_of_lt_of_le hbl (HBV.out.trans (h.mono HBV.out.size)).size⟩)
        have HK2 := Lib.hid (fun V (h : Below V0.heap.size V0 V) => HK.out V (HBV.out.trans (h.mono HBV.out.size)))
        have HO := Lib.hid (fun w => ccompare_any ny num w y1 y2 HNu.out.1 HNu.out.2)
        rw [show ordI (numV ny.data.toList) (numV num.data.toList) = -1 from by
          have y4 : numV ny.data.toList < numV num.data.toList := y4
          unfold ordI; rw [if_pos (by omega)]] at HO
        clear y1 y2 y3 y4
        go_wp2_with fail
        replace hD := below_drewN hD 1
        obtain ⟨c0, c1, c2, hsz⟩ := HK2.out _ hD
        obtain ⟨y0, hbw⟩ := HQy.out _ hD
        obtain ⟨r0, _, _, _, _, _, _, _, _, hrz⟩ := HR.out _ hD
        refine wp_region_held_drew (S := fun w' => w'.cell? ⟨w.heap.size, 2, none⟩ = some (.slice (some ⟨b, o, none⟩) X.length c) ∧ w'.cell? ⟨b, o + (k - 1) * 9, none⟩ = some (.string ny) ∧ w'.cell? ⟨wr.heap.size, 0, none⟩ = some (.string num)) (by kernel_rfl) (by first | exact ⟨c2, y0, r0⟩) (fun hHeld => ?_)
        refine wpAnyH_take (i := 0) (oi := ?_) (v := ?_) ?_ (by kernel_rfl) (by kernel_rfl) (by kernel_rfl) ?_ (Or.inl ⟨?_, ?_⟩) (by assumption) ?_
        rotate_left 2
        · (simp only [List.getElem?_toArray, List.getElem?_cons_zero]; rfl)
        · exact fun _ _ _ h => h
        · rfl
        · (intro w hSw; (try dsimp only at hSw); go_simp; try with_reducible rfl)
        simp only [Act.put, List.setIfInBounds_toArray, List.set_cons_zero, List.set_cons_succ]
        refine wpAnyH_take (i := 1) (oi := ?_) (v := ?_) ?_ (by kernel_rfl) (by kernel_rfl) (by kernel_rfl) ?_ (Or.inl ⟨?_, ?_⟩) (by assumption) ?_
        rotate_left 2
        · (simp only [List.getElem?_toArray, List.getElem?_cons_succ, List.getElem?_cons_zero]; rfl)
        · exact fun _ _ _ h => h
        · rfl
        · (intro w hSw; (try dsimp only at hSw); go_simp; try with_reducible rfl)
        simp only [Act.put, List.setIfInBounds_toArray, List.set_cons_zero, List.set_cons_succ]
        refine wpAnyH_take (i := 2) (oi := ?_) (v := ?_) ?_ (by kernel_rfl) (by kernel_rfl) (by kernel_rfl) ?_ (Or.inl ⟨?_, ?_⟩) (by assumption) ?_
        rotate_left 2
        · (simp only [List.getElem?_toArray, List.getElem?_cons_succ, List.getElem?_cons_zero]; rfl)
        · exact fun _ _ _ h => h
        · rfl
        · (intro w hSw; (try dsimp only at hSw); go_simp; try with_reducible rfl)
        simp only [Act.put, List.setIfInBounds_toArray, List.set_cons_zero, List.set_cons_succ]
        refine wpAnyH_take (i := 3) (oi := ?_) (v := ?_) ?_ (by kernel_rfl) (by kernel_rfl) (by kernel_rfl) ?_ (Or.inl ⟨?_, ?_⟩) (by assumption) ?_
        rotate_left 2
        · (simp only [List.getElem?_toArray, List.getElem?_cons_succ, List.getElem?_cons_zero]; rfl)
        · exact fun _ _ _ h => h
        · rfl
        · (intro w hSw; (try dsimp only at hSw); go_simp; try with_reducible rfl)
        simp only [Act.put, List.setIfInBounds_toArray, List.set_cons_zero, List.set_cons_succ]
        refine wpAnyH_take (i := 4) (oi := ?_) (v := ?_) ?_ (by kernel_rfl) (by kernel_rfl) (by kernel_rfl) ?_ (Or.inl ⟨?_, ?_⟩) (by assumption) ?_
        rotate_left 2
        · (simp only [List.getElem?_toArray, List.getElem?_cons_succ, List.getElem?_cons_zero]; rfl)
        · exact fun _ _ _ h => h
        · rfl
        · (intro w hSw; (try dsimp only at hSw); go_simp; try with_reducible rfl)
        simp only [Act.put, List.setIfInBounds_toArray, List.set_cons_zero, List.set_cons_succ]
        refine wpAnyH_take (i := 5) (oi := ?_) (v := ?_) ?_ (by kernel_rfl) (by kernel_rfl) (by kernel_rfl) ?_ (Or.inl ⟨?_, ?_⟩) (by assumption) ?_
        rotate_left 2
        · (simp only [List.getElem?_toArray, List.getElem?_cons_succ, List.getElem?_cons_zero]; rfl)
        · exact fun _ _ _ h => h
        · rfl
        · (intro w hSw; (try dsimp only at hSw); go_simp; try with_reducible rfl)
        simp only [Act.put, List.setIfInBounds_toArray, List.set_cons_zero, List.set_cons_succ]
        refine wpAnyH_take (i := 6) (oi := ?_) (v := ?_) ?_ (by kernel_rfl) (by kernel_rfl) (by kernel_rfl) ?_ (Or.inl ⟨?_, ?_⟩) (by assumption) ?_
        rotate_left 2
        · (simp only [List.getElem?_toArray, List.getElem?_cons_succ, List.getElem?_cons_zero]; rfl)
        · exact fun _ _ _ h => h
        · rfl
        · (intro w hSw; (try dsimp only at hSw); go_simp; try with_reducible rfl)
        simp only [Act.put, List.setIfInBounds_toArray, List.set_cons_zero, List.set_cons_succ]
        refine wpAnyH_take (i := 7) (oi := ?_) (v := ?_) ?_ (by kernel_rfl) (by kernel_rfl) (by kernel_rfl) ?_ (Or.inl ⟨?_, ?_⟩) (by assumption) ?_
        rotate_left 2
        · (simp only [List.getElem?_toArray, List.getElem?_cons_succ, List.getElem?_cons_zero]; rfl)
        · exact fun _ _ _ h => h
        · rfl
        · (intro w hSw; (try dsimp only at hSw); go_simp; try with_reducible rfl)
        simp only [Act.put, List.setIfInBounds_toArray, List.set_cons_zero, List.set_cons_succ]
        refine wpAnyH_take (i := 8) (oi := ?_) (v := ?_) ?_ (by kernel_rfl) (by kernel_rfl) (by kernel_rfl) ?_ (Or.inl ⟨?_, ?_⟩) (by assumption) ?_
        rotate_left 2
        · (simp only [List.getElem?_toArray, List.getElem?_cons_succ, List.getElem?_cons_zero]; rfl)
        · exact fun _ _ _ h => h
        · rfl
        · (intro w hSw; (try dsimp only at hSw); go_simp; try with_reducible rfl)
        simp only [Act.put, List.setIfInBounds_toArray, List.set_cons_zero, List.set_cons_succ]
        refine wpAnyH_take (i := 9) (oi := ?_) (v := ?_) ?_ (by kernel_rfl) (by kernel_rfl) (by kernel_rfl) ?_ (Or.inl ⟨?_, ?_⟩) (by assumption) ?_
        rotate_left 2
        · (simp only [List.getElem?_toArray, List.getElem?_cons_succ, List.getElem?_cons_zero]; rfl)
        · exact fun _ _ _ h => h
        · rfl
        · (intro w hSw; (try dsimp only at hSw); go_simp; try with_reducible rfl)
        simp only [Act.put, List.setIfInBounds_toArray, List.set_cons_zero, List.set_cons_succ]
        refine wpAnyH_take (i := 10) (oi := ?_) (v := ?_) ?_ (by kernel_rfl) (by kernel_rfl) (by kernel_rfl) ?_ (Or.inl ⟨?_, ?_⟩) (by assumption) ?_
        rotate_left 2
        · (simp only [List.getElem?_toArray, List.getElem?_cons_succ, List.getElem?_cons_zero]; rfl)
        · exact fun _ _ _ h => h
        · rfl
        · (intro w hSw; (try dsimp only at hSw); go_simp; try with_reducible rfl)
        simp only [Act.put, List.setIfInBounds_toArray, List.set_cons_zero, List.set_cons_succ]
        refine wpAnyH_take (i := 11) (oi := ?_) (v := ?_) ?_ (by kernel_rfl) (by kernel_rfl) (by kernel_rfl) ?_ (Or.inl ⟨?_, ?_⟩) (by assumption) ?_
        rotate_left 2
        · (simp only [List.getElem?_toArray, List.getElem?_cons_succ, List.getElem?_cons_zero]; rfl)
        · exact fun _ _ _ h => h
        · rfl
        · (intro w hSw; (try dsimp only at hSw); go_simp; try with_reducible rfl)
        simp only [Act.put, List.setIfInBounds_toArray, List.set_cons_zero, List.set_cons_succ]
        refine wpAnyH_ready (rs := [12]) (by kernel_rfl) (by simp) ?_
        refine AllReadyH.cons rfl (fun K hK => ?_) AllReadyH.nil
        go_simp
        go_at_call 42; refine (HO.out _).mono ?_; rintro e w9 ⟨rfl, hb⟩; replace hD := hD.trans (hb.mono hD.size); clear hb; obtain ⟨c0, c1, c2, hsz⟩ := HK2.out _ hD; obtain ⟨y0, hbw⟩ := HQy.out _ hD; obtain ⟨r0, _, _, _, _, _, _, _, _, hrz⟩ := HR.out _ hD
        go_wp2_with fail
        refine hK.out _ _ (by first | exact ⟨c2, y0, r0⟩) (fun hHeld => ?_)
        clear hK K
        try simp only [Act.put, List.setIfInBounds_toArray, List.set_cons_zero, List.set_cons_succ]
        refine wpAnyH_take (i := 13) (oi := ?_) (v := ?_) ?_ (by kernel_rfl) (by kernel_rfl) (by kernel_rfl) ?_ (Or.inl ⟨?_, ?_⟩) (by assumption) ?_
        rotate_left 2
        · (simp only [List.getElem?_toArray, List.getElem?_cons_succ, List.getElem?_cons_zero]; rfl)
        · exact fun _ _ _ h => h
        · rfl
        · (intro w hSw; (try dsimp only at hSw); go_simp; try with_reducible rfl)
        simp only [Act.put, List.setIfInBounds_toArray, List.set_cons_zero, List.set_cons_succ]
        refine wpAnyH_take (i := 14) (oi := ?_) (v := ?_) ?_ (by kernel_rfl) (by kernel_rfl) (by kernel_rfl) ?_ (Or.inl ⟨?_, ?_⟩) (by assumption) ?_
        rotate_left 2
        · (simp only [List.getElem?_toArray, List.getElem?_cons_succ, List.getElem?_cons_zero]; rfl)
        · exact fun _ _ _ h => h
        · rfl
        · (intro w hSw; (try dsimp only at hSw); go_simp; try with_reducible rfl)
        simp only [Act.put, List.setIfInBounds_toArray, List.set_cons_zero, List.set_cons_succ]
        refine wpAnyH_done (by kernel_rfl) ?_ _
        go_wp2_with fail
        go_roundw
        case rel => exact ⟨k + 1, by omega, by go_num, HBV.out.trans (hD.mono HBV.out.size)⟩
        case measure => simp [intOf]; omega
    · obtain rfl : k = X.length := by omega
      go_wp2_with fail
      go_ret
      exact ⟨rfl, HB0.out.trans (hB.mono HB0.out.size)⟩
end Go.Proofs.YtbhkfemebionnaaGreatDoor

namespace Go.Proofs.YtbhkfemebionnaaGreatDoor
open Go.RowKit

set_option maxRecDepth 100000 in
set_option maxHeartbeats 8000000 in
theorem nchecked_any (no pri : Int) (A : Option Addr) (n c : Nat) (X : List CV) (g : Nat) (s : ByteArray) (w : World) (hX : InC w A n X) (hs : ∀ x ∈ X, x.fitS) (hok : LsOK no pri X) (hg : g < w.heap.size) (hc : w.cell? ⟨g, 0, none⟩ = some (.string s)) (h1 : s.size ≤ 9223372036854775807) (h2 : numE s.data.toList = 0) :
    Calls Tryz.prog 38 #[.agg #[.int .i64 no, .int .i64 pri, .slice A n c], .slice (some ⟨g, 0, none⟩) 1 1] w fun e w' => e = .returned (.int .i64 0) ∧ Below w.heap.size w w' := by
  obtain ⟨W, hW⟩ : ∃ W, W = w.alloc (.cells #[.int .i64 no, .int .i64 pri, .slice A n c] 24) := ⟨_, rfl⟩
  have hB0 : Below w.heap.size w W := by rw [hW]; exact (Below.refl _ _).alloc (Nat.le_refl _) _
  have HL := Lib.hid (nlist_any no pri A n c X W (hX.below hB0) hs hok)
  have HN := Lib.hid (fun V => nchk_any s V h1)
  rw [h2] at HN
  have HK := Lib.hid (show ∀ V, Below w.heap.size w V → V.cell? ⟨g, 0, none⟩ = some (.string s) ∧ g < V.heap.size from fun V h => ⟨(h.cell (p := ⟨g, 0, none⟩) hg).trans hc, Nat.lt_of_lt_of_le hg h.size⟩)
  have HW := Lib.hid hW
  have HB0 := Lib.hid hB0
  clear hW hB0 hX hs hok hg hc h1 h2
  go_enter Tryz.func38, Tryz.ntmps38
  go_wp2_with fail
  rw [← HW.out]
  refine HL.out.mono ?_
  rintro e w1 ⟨rfl, hb⟩
  have hB := HB0.out.trans (hb.mono HB0.out.size)
  clear hb
  go_wp2_with fail
  have HB := Lib.hid hB
  clear hB
  go_loopw [16] (fun iv wr => ∃ k : Nat, k ≤ 1 ∧ iv = .int .i64 k ∧ Below w.heap.size w wr) (fun iv _ => 1 - (intOf iv).toNat)
  case atStart => exact ⟨0, by omega, rfl, HB.out⟩
  case round =>
    obtain ⟨k, hk, rfl, hB⟩ := hrel
    have HBr := Lib.hid hB
    obtain ⟨c0, hgw⟩ := HK.out _ hB
    obtain rfl | rfl : k = 0 ∨ k = 1 := by omega
    · go_wp2_with (go_at_call 48; refine (HN.out _).mono ?_; rintro e w7 ⟨rfl, hb7⟩)
      go_roundw
      case rel => exact ⟨1, by omega, by go_num, HBr.out.trans (hb7.mono HBr.out.size)⟩
      case measure => simp [intOf]
    · go_wp2_with fail
      go_ret
      exact ⟨rfl, HBr.out⟩
end Go.Proofs.YtbhkfemebionnaaGreatDoor

namespace Go.Proofs.YtbhkfemebionnaaGreatDoor
open Go.RowKit

def numQ (s : ByteArray) (x : CV) : Bool := decide (x.c.num = s)
set_option maxHeartbeats 4000000 in
theorem nplace1_any (B : Nat) (s : ByteArray) (num lab : ByteArray) (MA : Option Addr) (mn mc : Nat) (PA : Option Addr) (pn pc : Nat) (blk mrk : Bool) (fol : Int) (lnk : ByteArray) (lps : Int) (w : World) (hb : B < w.heap.size) (hc : w.cell? ⟨B, 0, none⟩ = some (.string s)) :
    Calls Tryz.prog 119 #[.agg #[.string num, .string lab, .slice MA mn mc, .slice PA pn pc, .bool blk, .bool mrk, .int .i64 fol, .string lnk, .int .i64 lps], .pointer (some ⟨B, 0, none⟩)] w fun e w' => e = .returned (.bool (decide (num = s))) ∧ Below w.heap.size w w' := by
  have hB0 : Below w.heap.size w (w.alloc (.cells #[.string num, .string lab, .slice MA mn mc, .slice PA pn pc, .bool blk, .bool mrk, .int .i64 fol, .string lnk, .int .i64 lps] 34)) := (Below.refl _ _).alloc (Nat.le_refl _) _
  have hc2 := (hB0.cell (p := ⟨B, 0, none⟩) hb).trans hc
  have hne : B ≠ w.heap.size := by omega
  have hbw := Nat.lt_of_lt_of_le hb hB0.size
  have HQ := Lib.hid (bytes_bq num s)
  go_enter Tryz.func119, Tryz.ntmps119
  go_wp2_with fail
  go_ret
  exact ⟨by rw [← HQ.out]; rfl, hB0⟩
set_option maxRecDepth 100000 in
set_option maxHeartbeats 8000000 in
theorem nidxc_any (B : Nat) (s : ByteArray) (A : Option Addr) (n c : Nat) (X : List CV) (w : World) (hX : InC w A n X) (hb : B < w.heap.size) (hc : w.cell? ⟨B, 0, none⟩ = some (.string s)) (hn : n ≤ 9223372036854775807) :
    Calls Tryz.prog 89 #[.slice A n c, .func (.func 119) #[] #[.pointer (some ⟨B, 0, none⟩)]] w fun e w' => e = .returned (.int .i64 (idxOf (numQ s) X)) ∧ Below w.heap.size w w' := by
  have hn2 : n = X.length := hX.len
  subst hn2
  have e79 := enters_of Tryz.func119 (by kernel_rfl) rfl
  have HL := Lib.hid hX
  have HB := Lib.hid hb
  have HCc := Lib.hid hc
  clear hX hb hc
  obtain ⟨E, hE⟩ : ∃ E, E = idxOf (numQ s) X := ⟨_, rfl⟩
  rw [← hE]
  have HE := Lib.hid hE
  clear hE
  go_enter Tryz.func89, Tryz.ntmps89
  go_wp2_with fail
  go_loopw [8] (fun iv wr => ∃ k : Nat, k ≤ X.length ∧ iv = .int .i64 k ∧ Below w.heap.size w wr ∧ ∀ j (h : j < X.length), j < k → numQ s X[j] = false) (fun iv _ => X.length - (intOf iv).toNat)
  case atStart => exact ⟨0, Nat.zero_le _, rfl, Below.refl _ _, fun j _ h => absurd h (Nat.not_lt_zero _)⟩
  case round =>
    obtain ⟨k, hk, rfl, hBr, hall⟩ := hrel
    have HBr := Lib.hid hBr
    have HAll := Lib.hid hall
    clear hall
    by_cases hlt : k < X.length
    · have i0 : (0 : Int) ≤ (k : Int) := by omega
      have i1 : (k : Int) < (X.length : Int) := by omega
      have w0 : IntKind.i64.wrap ((k : Int) + 1) = (k : Int) + 1 := IntWalk.i64_in _ (by omega)
      obtain ⟨b, o, rfl, hbl, hcell⟩ := cu_at HL.out (by omega)
      have hck := hcell k hlt
      have HY := Lib.hid (show numQ s X[k] = true → E = k from fun h => HE.out.trans (idxOf_some hlt (fun i hi => HAll.out i (by omega) hi) h))
      have HN := Lib.hid (show numQ s X[k] = false → ∀ j (h : j < X.length), j < k + 1 → numQ s X[j] = false from fun h j hj hjk => by
        rcases Nat.lt_or_eq_of_le (Nat.le_of_lt_succ hjk) with h1 | h1
        · exact HAll.out j hj h1
        · subst h1; exact h)
      obtain ⟨x, hx⟩ : ∃ x, x = X[k] := ⟨_, rfl⟩
      rw [← hx] at hck HY HN
      clear hx
      obtain ⟨⟨num, lab, MA, mn, mc, PA, pn, pc, blk, mrk, fol, lnk, lps⟩, ms, ts⟩ := x
      obtain ⟨q0, q1, q2, q3, q4, q5, q6, q7, q8⟩ := hck
      have p0 := (hBr.cell (p := ⟨b, o + k * 9, none⟩) hbl).trans q0
      have p1 := (hBr.cell (p := ⟨b, o + k * 9 + 1, none⟩) hbl).trans q1
      have p2 := (hBr.cell (p := ⟨b, o + k * 9 + 2, none⟩) hbl).trans q2
      have p3 := (hBr.cell (p := ⟨b, o + k * 9 + 3, none⟩) hbl).trans q3
      have p4 := (hBr.cell (p := ⟨b, o + k * 9 + 4, none⟩) hbl).trans q4
      have p5 := (hBr.cell (p := ⟨b, o + k * 9 + 5, none⟩) hbl).trans q5
      have p6 := (hBr.cell (p := ⟨b, o + k * 9 + 6, none⟩) hbl).trans q6
      have p7 := (hBr.cell (p := ⟨b, o + k * 9 + 7, none⟩) hbl).trans q7
      have p8 := (hBr.cell (p := ⟨b, o + k * 9 + 8, none⟩) hbl).trans q8
      have hbw := Nat.lt_of_lt_of_le hbl HBr.out.size
      have hM := nplace1_any B s num lab MA mn mc PA pn pc blk mrk fol lnk lps wr (Nat.lt_of_lt_of_le HB.out hBr.size) ((hBr.cell (p := ⟨B, 0, none⟩) HB.out).trans HCc.out)
      clear hcell q0 q1 q2 q3 q4 q5 q6 q7 q8
      cases hv : decide (num = s)
      · rw [hv] at hM
        have HM := Lib.hid hM
        have HN2 := Lib.hid (HN.out hv)
        clear hM hv
        go_wp2_with (go_at_call 119; with_reducible refine HM.out.mono ?_; rintro e w7 ⟨rfl, hb7⟩)
        go_roundw
        case rel => exact ⟨k + 1, by omega, by go_num, HBr.out.trans (hb7.mono HBr.out.size), HN2.out⟩
        case measure => simp [intOf]; omega
      · rw [hv] at hM
        have HM := Lib.hid hM
        have HY2 := Lib.hid (HY.out hv)
        clear hM hv
        go_wp2_with (go_at_call 119; with_reducible refine HM.out.mono ?_; rintro e w7 ⟨rfl, hb7⟩)
        go_ret
        exact ⟨by rw [HY2.out]; rfl, HBr.out.trans (hb7.mono HBr.out.size)⟩
    · obtain rfl : k = X.length := by omega
      have HY2 := Lib.hid (HE.out.trans (idxOf_none (fun i hi => HAll.out i hi hi)))
      go_wp2_with fail
      go_ret
      exact ⟨by rw [HY2.out]; rfl, HBr.out⟩
end Go.Proofs.YtbhkfemebionnaaGreatDoor

namespace Go.Proofs.YtbhkfemebionnaaGreatDoor
open Go.RowKit

set_option maxRecDepth 100000 in
set_option maxHeartbeats 8000000 in
theorem nplace_any (no pri : Int) (A : Option Addr) (n c : Nat) (X : List CV) (s : ByteArray) (w : World) (hX : InC w A n X) (hn : n ≤ 9223372036854775807) :
    Calls Tryz.prog 92 #[.agg #[.int .i64 no, .int .i64 pri, .slice A n c], .string s] w fun e w' => e = .returned (.int .i64 (idxOf (numQ s) X)) ∧ Below w.heap.size w w' := by
  have hB0 : Below w.heap.size w ((w.alloc (.cells #[.int .i64 no, .int .i64 pri, .slice A n c] 80)).alloc (.cells #[.string s] 9)) := ((Below.refl _ _).alloc (Nat.le_refl _) _).alloc (by simp) _
  have hmf : ∀ (fn : Fn) (first cap : Array Value) (w : World), (Instr.makeFunc fn first cap).run Tryz.prog w = .ok (.func fn first cap) w := fun _ _ _ _ => rfl
  have HB0 := Lib.hid hB0
  have HI := Lib.hid (nidxc_any (w.heap.size + 1) s A n c X _ (hX.below hB0) (by simp) (by
    have h : World.cell? ((w.alloc (.cells #[.int .i64 no, .int .i64 pri, .slice A n c] 80)).alloc (.cells #[.string s] 9)) ⟨(w.alloc (.cells #[.int .i64 no, .int .i64 pri, .slice A n c] 80)).heap.size, 0, none⟩ = some (.string s) := by rw [World.cell?_alloc_new]; rfl
    rw [World.size_alloc] at h; exact h) hn)
  clear hB0 hX hn
  generalize idxOf (numQ s) X = E at *
  go_enter Tryz.func92, Tryz.ntmps92
  go_wp2_with fail
  refine HI.out.mono ?_
  rintro e w7 ⟨rfl, hb7⟩
  go_wp2_with fail
  go_ret
  exact ⟨rfl, HB0.out.trans (hb7.mono HB0.out.size)⟩
set_option maxRecDepth 100000 in
set_option maxHeartbeats 8000000 in
theorem nfind_any (no pri : Int) (A : Option Addr) (n c : Nat) (X : List CV) (s : ByteArray) (w : World) (hX : InC w A n X) (hs : ∀ x ∈ X, x.fitS) (hok : LsOK no pri X) (h1 : s.size ≤ 9223372036854775807) (h2 : numE s.data.toList = 0) (hn : n ≤ 9223372036854775807) :
    Calls Tryz.prog 66 #[.agg #[.int .i64 no, .int .i64 pri, .slice A n c], .string s] w fun e w' => e = .returned (.tuple #[.int .i64 (max (idxOf (numQ s) X) 0), .bool (decide (0 ≤ idxOf (numQ s) X)), .int .i64 0]) ∧ Below w.heap.size w w' := by
  obtain ⟨W0, hW0⟩ : ∃ W0, W0 = w.alloc (.cells #[.int .i64 no, .int .i64 pri, .slice A n c] 24) := ⟨_, rfl⟩
  have hB0 : Below w.heap.size w W0 := by rw [hW0]; exact (Below.refl _ _).alloc (Nat.le_refl _) _
  have hcW : Cells W0 w.heap.size [.int .i64 no, .int .i64 pri, .slice A n c] := by rw [hW0]; exact Cells.fresh w [.int .i64 no, .int .i64 pri, .slice A n c] _
  obtain ⟨W, hW⟩ : ∃ W, W = W0.alloc (.cells #[.string s] 9) := ⟨_, rfl⟩
  have hB1 : Below W0.heap.size W0 W := by rw [hW]; exact (Below.refl _ _).alloc (Nat.le_refl _) _
  have hcS : Cells W W0.heap.size [.string s] := by rw [hW]; exact Cells.fresh W0 [.string s] _
  have hs0 : W0.heap.size = w.heap.size + 1 := by rw [hW0]; simp
  rw [hs0] at hcS
  have hBW : Below w.heap.size w W := hB0.trans (hB1.mono hB0.size)
  have hcW2 := hcW.below hB1 hcW.1
  have HC := Lib.hid (nchecked_any no pri A n c X (w.heap.size + 1) s W (hX.below hBW) hs hok hcS.1 (hcS.at_ (j := 0) rfl) h1 h2)
  have HP := Lib.hid (fun V (h : Below w.heap.size w V) => nplace_any no pri A n c X s V (hX.below h) hn)
  have HK := Lib.hid (show ∀ V, Below W.heap.size W V → V.cell? ⟨w.heap.size, 0, none⟩ = some (.int .i64 no) ∧ V.cell? ⟨w.heap.size, 1, none⟩ = some (.int .i64 pri) ∧ V.cell? ⟨w.heap.size, 2, none⟩ = some (.slice A n c) ∧ w.heap.size < V.heap.size from fun V h => by
    have hc := hcW2.below h hcW2.1
    exact ⟨hc.at_ (j := 0) rfl, hc.at_ (j := 1) rfl, hc.at_ (j := 2) rfl, hc.1⟩)
  have HBW := Lib.hid hBW
  have hge := idxOf_ge (p := numQ s) X
  have hlt := idxOf_lt (p := numQ s) X
  have hlen := hX.len
  rw [hW0] at hW
  have HW := Lib.hid hW
  generalize idxOf (numQ s) X = E at *
  have hE1 : E < 9223372036854775807 := by omega
  clear hW0 hW hB0 hB1 hcW hcS hs0 hBW hcW2 hX hs hok h1 h2 hlt hlen
  by_cases h0 : 0 ≤ E
  · have HM := Lib.hid (show max E 0 = E by omega)
    have HD := Lib.hid (show decide (0 ≤ E) = true from decide_eq_true h0)
    go_enter Tryz.func66, Tryz.ntmps66
    go_wp2_with fail
    rw [← HW.out]
    refine HC.out.mono ?_
    rintro e w1 ⟨rfl, hb⟩
    have hB := (Below.refl W.heap.size W).trans hb
    have hBw := HBW.out.trans (hb.mono HBW.out.size)
    obtain ⟨c0, c1, c2, hsz⟩ := HK.out _ hB
    clear hb
    go_wp2_with (go_at_call 92; refine (HP.out _ hBw).mono ?_; rintro e w2 ⟨rfl, hb2⟩)
    go_ret3
    exact ⟨by rw [HM.out, HD.out]; first | rfl | (go_simp; omega) | simp [HM.out], hBw.trans (hb2.mono hBw.size)⟩
  · have HM := Lib.hid (show max E 0 = 0 by omega)
    have HD := Lib.hid (show decide (0 ≤ E) = false from decide_eq_false h0)
    go_enter Tryz.func66, Tryz.ntmps66
    go_wp2_with fail
    rw [← HW.out]
    refine HC.out.mono ?_
    rintro e w1 ⟨rfl, hb⟩
    have hB := (Below.refl W.heap.size W).trans hb
    have hBw := HBW.out.trans (hb.mono HBW.out.size)
    obtain ⟨c0, c1, c2, hsz⟩ := HK.out _ hB
    clear hb
    go_wp2_with (go_at_call 92; refine (HP.out _ hBw).mono ?_; rintro e w2 ⟨rfl, hb2⟩)
    go_ret3
    exact ⟨by rw [HM.out, HD.out]; first | rfl | (go_simp; omega) | simp [HM.out], hBw.trans (hb2.mono hBw.size)⟩
end Go.Proofs.YtbhkfemebionnaaGreatDoor

namespace Go.Proofs.YtbhkfemebionnaaGreatDoor
open Go.RowKit

set_option maxRecDepth 100000 in
set_option maxHeartbeats 8000000 in
theorem ntplace_any (no pri : Int) (A : Option Addr) (n c : Nat) (X : List CV) (s : ByteArray) (w : World) (hX : InC w A n X) (hs : ∀ x ∈ X, x.fitS) (hok : LsOK no pri X) (h1 : s.size ≤ 9223372036854775807) (h2 : numE s.data.toList = 0) (hn : n ≤ 9223372036854775807) (hin : 0 ≤ idxOf (numQ s) X) :
    Calls Tryz.prog 36 #[.agg #[.int .i64 no, .int .i64 pri, .slice A n c], .string s] w fun e w' => e = .returned (.tuple #[.int .i64 (idxOf (numQ s) X), .int .i64 0]) ∧ Below w.heap.size w w' := by
  have hB0 : Below w.heap.size w (w.alloc (.cells #[.int .i64 no, .int .i64 pri, .slice A n c] 24)) := (Below.refl _ _).alloc (Nat.le_refl _) _
  have hF := nfind_any no pri A n c X s _ (hX.below hB0) hs hok h1 h2 hn
  rw [decide_eq_true hin, show max (idxOf (numQ s) X) 0 = idxOf (numQ s) X by omega] at hF
  have HF := Lib.hid hF
  have HB0 := Lib.hid hB0
  clear hF hB0 hX hs hok h1 h2 hn hin
  generalize idxOf (numQ s) X = E at *
  go_enter Tryz.func36, Tryz.ntmps36
  go_wp2_with fail
  refine HF.out.mono ?_
  rintro e w1 ⟨rfl, hb⟩
  go_wp2_with fail
  go_ret2
  exact ⟨rfl, HB0.out.trans (hb.mono HB0.out.size)⟩
end Go.Proofs.YtbhkfemebionnaaGreatDoor
