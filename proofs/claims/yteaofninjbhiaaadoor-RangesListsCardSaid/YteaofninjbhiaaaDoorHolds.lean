/- Contracts of Holds and Count, of the program and of the reference, and of the reference's List. -/
import Derived.Test.YteaofninjbhiaaaDoorList
namespace Go.Proofs.YteaofninjbhiaaaDoor
open Go.RowKit Go.Shelf
attribute [local go_sem] Oper.semAt_some

def holdsL (l : RL) (c : Int) : Bool × Int := if chk l = 0 then (inB l c, 0) else (false, chk l)
def countL (l : RL) : Int × Int := if chk l = 0 then (((listed l).length : Int), 0) else (0, chk l)

theorem Boxed.own {W W' : World} {row : Option Nat} {B : Nat} {t : TypeId} {v : Value} (h : Boxed W B t v) (hg : W.grownBy W' row) (hr : ∀ r, row = some r → ∃ o : Obj, W.heap[r]? = some o ∧ o.isCells = false) : Boxed W' B t v :=
  h.kept hg fun e => by
    obtain ⟨o, ho, hc⟩ := hr B e.symm
    rw [show W.heap[B]? = _ from h] at ho
    cases ho
    simp [Obj.isCells] at hc

set_option maxRecDepth 100000 in
set_option maxHeartbeats 4000000 in
theorem count_any (A : Option Addr) (n c : Nat) (l : RL) (w : World) (hl : Rs w A n l) (hn : n ≤ 100000) :
    Calls Tryd.prog 27 #[.slice A n c] w fun e w' => e = .returned (.tuple #[.int .i64 (countL l).1, .int .i64 (countL l).2]) ∧ Below w.heap.size w w' := by
  obtain ⟨rfl, _⟩ := id hl
  by_cases h0 : chk l = 0
  · have hfin := Lib.hid (show countL l = (((listed l).length : Int), 0) from if_pos h0)
    have hlen := listed_length (chk_ok h0)
    have H0 := Lib.hid h0
    clear h0
    refine (callsIn_wide (n := 5)).1 ?_
    refine callsIn_of_wp_marks Tryd.func27 rfl trivial ?_ rfl
    simp only [Tryd.ntmps27, List.size_toArray, List.length_cons, List.length_nil, Nat.reduceAdd, Nat.reduceSub, Array.replicate_succ, Array.replicate_zero, List.push_toArray, List.append_toArray, List.nil_append, List.cons_append]
    gi_wp2_with (first | (refine ⟨trivial, ?_⟩; gi_at_call 14; refine (callsIn_wide.2 (check_any _ _ c l _ hl (by omega))).mono ?_; rw [H0.out]; rintro e w1 ⟨rfl, hb1⟩; have hz1 := hb1.size) | (refine ⟨trivial, ?_⟩; gi_at_call 56; refine (all_in _ _ _ _ _).mono ?_; rintro e w' ⟨rfl, rfl⟩))
    have bO := Boxed.new w1 3 (.int .i64 0)
    have bN := Boxed.new (w1.alloc (.cells #[.int .i64 0] 3)) 22 (.slice A l.length c)
    rw [World.size_alloc] at bN
    have hB0 : Below w1.heap.size w1 ((w1.alloc (.cells #[.int .i64 0] 3)).alloc (.cells #[.slice A l.length c] 22)) := ((Below.refl _ w1).alloc (Nat.le_refl _) _).alloc (by simp) _
    refine wpIn_rangeFunc_ownG rfl (by omega) (gf := 72) (lb := #[.pointer (some ⟨w1.heap.size + 1, 0, none⟩)]) rfl trivial (enters_of Tryd.func72 (by kernel_rfl) rfl)
      (all_stops 4 (by omega) (w1.heap.size + 1) w1.heap.size A c l (by omega) (chk_ok H0.out) _ (by simp) (by simp; omega) bN.cell (fun k hk => by
        obtain ⟨b, o, e, hb, h1, h2⟩ := (hl.below hb1).at1 hk
        exact ⟨b, o, e, hb, (hB0.cell (p := ⟨b, _, none⟩) hb).trans h1, (hB0.cell (p := ⟨b, _, none⟩) hb).trans h2⟩)) KpR.t (KpR.b (by simp; omega)) (Below.refl _ _) (fun _ => rfl)
      (fun pre W => Boxed W w1.heap.size 3 (.int .i64 pre.length) ∧ Below w1.heap.size w1 W)
      (fun _ _ _ => False)
      (OwnFrom.and (Own.from (fun (s : List Int) A B row (hs : Boxed A w1.heap.size 3 (.int .i64 s.length)) hg hr => Boxed.own hs hg hr) _) (ownFrom_below (Nat.le_refl _) (by simp; omega)))
      (fun _ _ _ _ _ hs _ _ => hs)
      ⟨bO.alloc _, hB0⟩
      (fun x => { tmps := #[.slice A l.length c, undef, .int .i64 0, .int .i64 0, .int .i64 0, .pointer (some ⟨w1.heap.size, 0, none⟩), .slice A l.length c, .int .i64 0, .int .i64 0, .bool false, undef, .slice A l.length c, .func (.func 72) #[] #[.pointer (some ⟨w1.heap.size + 1, 0, none⟩)], .int .i64 x, undef, undef, undef], defers := [] }) ?assign ?body ?done ?stop
    case assign =>
      intro l x W K hK
      gi_wp2
      simpa using hK
    case body =>
      rintro y0 pre x W ⟨hv, hB⟩ hlt
      have hc := hv.cell
      have hf := hv.frozen
      have hsz := hB.size
      have hpl : pre.length ≤ 99900000 := by omega
      clear hlt hlen
      gi_wp2
      exact ⟨(KeepsOthers.setCell _ _ _).from _, (KpR.refl _ _ W).set hv (by decide) (Nat.le_refl _) _, by
        have := hv.set (.int .i64 ((pre.length : Int) + 1))
        rw [List.length_append, show ((pre.length + [x].length : Nat) : Int) = (pre.length : Int) + 1 from by simp]
        exact this, hB.setCell (p := ⟨w1.heap.size, 0, none⟩) (Nat.le_refl _) _⟩
    case done =>
      rintro D ys W hD rfl ⟨hv, hB⟩ hK
      have hc := hv.cell
      gi_wp2
      refine ⟨by simp, .inl ⟨_, _, rfl, run_takeDeferred hK, ?_⟩⟩
      refine ⟨_, results_tmp2 rfl _ _ _, ?_⟩
      rw [hfin.out]
      exact ⟨rfl, hb1.trans ((hB.trans (belowK_b (w := w1) (Nat.le_refl _) W D _ (.deferred none) (by simp at hD; omega) hK rfl rfl)).mono hz1)⟩
    case stop =>
      rintro D c pre W _ _ h _
      exact h.elim
  · have hfin := Lib.hid (show countL l = (0, chk l) from if_neg h0)
    generalize hx : chk l = x at *
    have Hx := Lib.hid hx
    clear hx
    have h0' : (x != 0) = true := by simpa using h0
    clear h0
    go_enter Tryd.func27, Tryd.ntmps27
    go_wp2_with fail
    refine (check_any _ _ c l _ hl (by omega)).mono ?_
    rw [Hx.out]
    rintro e w1 ⟨rfl, hb1⟩
    go_wp2_with fail
    go_ret2
    rw [hfin.out]
    exact ⟨rfl, hb1⟩

theorem mem_inB {l : RL} {c : Int} (h : c ∈ listed l) : inB l c = true := inB_listed.2 h
theorem not_inB {l : RL} {c : Int} (h : ∀ y ∈ listed l, y ≠ c) : inB l c = false := by
  rw [Bool.eq_false_iff]; intro hh; exact h c (inB_listed.1 hh) rfl

set_option maxRecDepth 100000 in
set_option maxHeartbeats 4000000 in
theorem holds_any (A : Option Addr) (n c : Nat) (l : RL) (ch : Int) (w : World) (hl : Rs w A n l) (hn : n ≤ 100000) :
    Calls Tryd.prog 25 #[.slice A n c, .int .i64 ch] w fun e w' => e = .returned (.tuple #[.bool (holdsL l ch).1, .int .i64 (holdsL l ch).2]) ∧ Below w.heap.size w w' := by
  obtain ⟨rfl, _⟩ := id hl
  have hb3 : Below w.heap.size w (((w.alloc (.cells #[.int .i64 ch] 3)).alloc (.cells #[.bool false] 4)).alloc (.cells #[.int .i64 0] 24)) := (((Below.refl _ w).alloc (Nat.le_refl _) _).alloc (by simp) _).alloc (by simp; omega) _
  by_cases h0 : chk l = 0
  · have hfin := Lib.hid (show holdsL l ch = (inB l ch, 0) from if_pos h0)
    have hlen := listed_length (chk_ok h0)
    have H0 := Lib.hid h0
    clear h0
    refine (callsIn_wide (n := 5)).1 ?_
    refine callsIn_of_wp_marks Tryd.func25 rfl trivial ?_ rfl
    simp only [Tryd.ntmps25, List.size_toArray, List.length_cons, List.length_nil, Nat.reduceAdd, Nat.reduceSub, Array.replicate_succ, Array.replicate_zero, List.push_toArray, List.append_toArray, List.nil_append, List.cons_append]
    gi_wp2_with (first | (refine ⟨trivial, ?_⟩; gi_at_call 14; refine (callsIn_wide.2 (check_any _ _ c l _ (hl.below hb3) (by omega))).mono ?_; rw [H0.out]; rintro e w1 ⟨rfl, hb1⟩; have hz1 := hb1.size; simp at hz1; obtain ⟨hcc, hcf⟩ := bcell hb1) | (refine ⟨trivial, ?_⟩; gi_at_call 56; refine (all_in _ _ _ _ _).mono ?_; rintro e w' ⟨rfl, rfl⟩))
    have bC := ((((Boxed.new w 3 (.int .i64 ch)).alloc (.cells #[.bool false] 4)).alloc (.cells #[.int .i64 0] 24)))
    have bN := Boxed.new w1 22 (.slice A l.length c)
    have hB0 : Below w.heap.size w (w1.alloc (.cells #[.slice A l.length c] 22)) := (hb3.trans (hb1.mono (by simp; omega))).alloc (by omega) _
    have c0 : (w1.alloc (.cells #[.slice A l.length c] 22)).cell? ⟨w.heap.size, 0, none⟩ = some (.int .i64 ch) := by
      refine Boxed.cell (t := 3) (Boxed.alloc ?_ _)
      exact (hb1.block _ (by first | omega | (simp; omega) | simp)).trans (((Boxed.new w 3 (.int .i64 ch)).alloc _).alloc _)
    have b1 : Boxed (w1.alloc (.cells #[.slice A l.length c] 22)) (w.heap.size + 1) 4 (.bool false) := by
      refine Boxed.alloc ?_ _
      have := ((Boxed.new (w.alloc (.cells #[.int .i64 ch] 3)) 4 (.bool false)).alloc (.cells #[.int .i64 0] 24))
      rw [World.size_alloc] at this
      exact (hb1.block _ (by first | omega | (simp; omega) | simp)).trans this
    have b2 : Boxed (w1.alloc (.cells #[.slice A l.length c] 22)) (w.heap.size + 1 + 1) 24 (.int .i64 0) := by
      refine Boxed.alloc ?_ _
      have := Boxed.new ((w.alloc (.cells #[.int .i64 ch] 3)).alloc (.cells #[.bool false] 4)) 24 (.int .i64 0)
      simp only [World.size_alloc] at this
      exact (hb1.block _ (by first | omega | (simp; omega) | simp)).trans this
    refine wpIn_rangeFunc_ownG rfl (by omega) (gf := 72) (lb := #[.pointer (some ⟨w1.heap.size, 0, none⟩)]) rfl trivial (enters_of Tryd.func72 (by kernel_rfl) rfl)
      (all_stops 4 (by omega) w1.heap.size w.heap.size A c l (by omega) (chk_ok H0.out) _ (by simp) (by simp; omega) bN.cell (fun k hk => by
        obtain ⟨b, o, e, hb, h1, h2⟩ := hl.at1 hk
        exact ⟨b, o, e, hb, (hB0.cell (p := ⟨b, _, none⟩) hb).trans h1, (hB0.cell (p := ⟨b, _, none⟩) hb).trans h2⟩)) KpR.t (KpR.b (by simp; omega)) (Below.refl _ _) (fun _ => rfl)
      (fun pre W => ((∀ y ∈ pre, y ≠ ch) ∧ W.cell? ⟨w.heap.size, 0, none⟩ = some (.int .i64 ch) ∧ (∃ v, Boxed W (w.heap.size + 1) 4 v) ∧ (∃ v, Boxed W (w.heap.size + 1 + 1) 24 v)) ∧ Below w.heap.size w W)
      (fun c pre W => (c = .ret ∧ ch ∈ pre ∧ Boxed W (w.heap.size + 1) 4 (.bool true) ∧ Boxed W (w.heap.size + 1 + 1) 24 (.int .i64 0)) ∧ Below w.heap.size w W)
      (OwnFrom.and (Own.from (fun (s : List Int) A B row hs hg hr => ⟨hs.1, cell_kept hs.2.1 hg hr, hs.2.2.1.imp fun v h => Boxed.own h hg hr, hs.2.2.2.imp fun v h => Boxed.own h hg hr⟩) _) (ownFrom_below (Nat.le_refl _) (by simp; omega)))
      (fun c => OwnFrom.and (Own.from (fun (s : List Int) A B row hs hg hr => ⟨hs.1, hs.2.1, Boxed.own hs.2.2.1 hg hr, Boxed.own hs.2.2.2 hg hr⟩) _) (ownFrom_below (Nat.le_refl _) (by simp; omega)))
      ⟨⟨by simp, c0, ⟨_, b1⟩, ⟨_, b2⟩⟩, hB0⟩
      (fun x => { tmps := #[.slice A l.length c, .int .i64 ch, undef, .pointer (some ⟨w.heap.size, 0, none⟩), .pointer (some ⟨w.heap.size + 1, 0, none⟩), .pointer (some ⟨w.heap.size + 1 + 1, 0, none⟩), .int .i64 0, .int .i64 x, .slice A l.length c, .int .i64 0, .int .i64 0, .bool false, undef, .slice A l.length c, .func (.func 72) #[] #[.pointer (some ⟨w1.heap.size, 0, none⟩)], .int .i64 x, undef, undef, undef], defers := [] }) ?assign ?body ?done ?stop
    case assign =>
      intro l x W K hK
      gi_wp2
      exact hK
    case body =>
      clear hcc hcf c0 b1 b2
      rintro y0 pre x W ⟨⟨hp, hcw, ⟨v1, hx1⟩, ⟨v2, hx2⟩⟩, hB⟩ hlt
      have hsz := hB.size
      have e1 := hx1.cell
      have e2 := hx2.cell
      have f1 := hx1.frozen
      have f2 := hx2.frozen
      have e3 : (W.setCell ⟨w.heap.size + 1, 0, none⟩ (.bool true)).cell? ⟨w.heap.size + 1 + 1, 0, none⟩ = some v2 := (World.cell?_of_block (Below.heap_setCell _ _ _ _ (by simp))).trans e2
      have f3 : (W.setCell ⟨w.heap.size + 1, 0, none⟩ (.bool true)).frozen? ⟨w.heap.size + 1 + 1, 0, none⟩ = false := (World.frozen?_of_block (Below.heap_setCell _ _ _ _ (by simp))).trans f2
      have HP := Lib.hid hp
      clear hp hlt hlen
      by_cases hx : x = ch
      · subst hx
        gi_wp2
        exact ⟨((KeepsOthers.setCell _ _ _).trans (KeepsOthers.setCell _ _ _)).from _, ⟨rfl, List.mem_append.2 (.inr (by simp)), (Below.heap_setCell _ _ _ _ (by simp)).trans (hx1.set (.bool true)), Boxed.set (.int .i64 0) ((Below.heap_setCell _ _ _ _ (by simp)).trans hx2)⟩, (hB.setCell (p := ⟨w.heap.size + 1, 0, none⟩) (by simp) _).setCell (p := ⟨w.heap.size + 1 + 1, 0, none⟩) (by simp; omega) _⟩
      · have hx' : (x == ch) = false := by simpa using hx
        have Hx := Lib.hid hx
        clear hx
        gi_wp2
        exact ⟨KeepsFrom.refl _ _, KpR.refl _ _ _, ⟨fun y hy => (List.mem_append.1 hy).elim (HP.out y) (fun e e' => by simp at e; subst e; exact Hx.out e'), hcw, ⟨v1, hx1⟩, ⟨v2, hx2⟩⟩, hB⟩
    case done =>
      rintro D ys W hD rfl ⟨⟨hne, _, ⟨v1, hx1⟩, ⟨v2, hx2⟩⟩, hB⟩ hK
      have hno := Lib.hid (not_inB hne)
      clear hne hcc hcf c0 b1 b2
      have e1 := hx1.cell
      have e2 := hx2.cell
      have f1 := hx1.frozen
      have f2 := hx2.frozen
      have e3 : (W.setCell ⟨w.heap.size + 1, 0, none⟩ (.bool false)).cell? ⟨w.heap.size + 1 + 1, 0, none⟩ = some v2 := (World.cell?_of_block (Below.heap_setCell _ _ _ _ (by simp))).trans e2
      have f3 : (W.setCell ⟨w.heap.size + 1, 0, none⟩ (.bool false)).frozen? ⟨w.heap.size + 1 + 1, 0, none⟩ = false := (World.frozen?_of_block (Below.heap_setCell _ _ _ _ (by simp))).trans f2
      gi_wp2
      have g1 : Boxed ((W.setCell ⟨w.heap.size + 1, 0, none⟩ (.bool false)).setCell ⟨w.heap.size + 1 + 1, 0, none⟩ (.int .i64 0)) (w.heap.size + 1) 4 (.bool false) := (Below.heap_setCell _ _ _ _ (by simp)).trans (hx1.set (.bool false))
      have g2 : Boxed ((W.setCell ⟨w.heap.size + 1, 0, none⟩ (.bool false)).setCell ⟨w.heap.size + 1 + 1, 0, none⟩ (.int .i64 0)) (w.heap.size + 1 + 1) 24 (.int .i64 0) := Boxed.set (.int .i64 0) ((Below.heap_setCell _ _ _ _ (by simp)).trans hx2)
      have hK' := ((KeepsOthers.setCell W ⟨w.heap.size + 1, 0, none⟩ (.bool false)).trans (KeepsOthers.setCell _ ⟨w.heap.size + 1 + 1, 0, none⟩ (.int .i64 0))).same D _ hK rfl
      refine ⟨by simp, .inl ⟨_, _, rfl, run_takeDeferred hK', ?_⟩⟩
      have k1 := (Boxed.own g1 (grownBy_putObj' _ D (.deferred none)) (fun r e => by cases e; exact ⟨_, hK', rfl⟩)).cell
      have k2 := (Boxed.own g2 (grownBy_putObj' _ D (.deferred none)) (fun r e => by cases e; exact ⟨_, hK', rfl⟩)).cell
      refine ⟨.tuple #[.bool false, .int .i64 0], by simp [results, Tryd.f25, go_sem, k1, k2], ?_⟩
      rw [hfin.out]
      refine ⟨by rw [hno.out], ?_⟩
      exact ((hB.setCell (p := ⟨w.heap.size + 1, 0, none⟩) (by simp) _).setCell (p := ⟨w.heap.size + 1 + 1, 0, none⟩) (by simp; omega) _).trans (belowK_b (w := w) (Nat.le_refl _) _ D _ (.deferred none) (by simp at hD; omega) hK' rfl rfl)
    case stop =>
      rintro D c pre W hD hpre ⟨⟨rfl, hin, hx1, hx2⟩, hB⟩ hK
      clear hcc hcf c0 b1 b2
      gi_wp2
      refine ⟨by simp, .inl ⟨_, _, rfl, run_takeDeferred hK, ?_⟩⟩
      have k1 := (Boxed.own hx1 (grownBy_putObj' _ D (.deferred none)) (fun r e => by cases e; exact ⟨_, hK, rfl⟩)).cell
      have k2 := (Boxed.own hx2 (grownBy_putObj' _ D (.deferred none)) (fun r e => by cases e; exact ⟨_, hK, rfl⟩)).cell
      refine ⟨.tuple #[.bool true, .int .i64 0], by simp [results, Tryd.f25, go_sem, k1, k2], ?_⟩
      rw [hfin.out]
      refine ⟨by rw [mem_inB (hpre.subset hin)], ?_⟩
      exact hB.trans (belowK_b (w := w) (Nat.le_refl _) W D _ (.deferred none) (by simp at hD; omega) hK rfl rfl)
  · have hfin := Lib.hid (show holdsL l ch = (false, chk l) from if_neg h0)
    generalize hx : chk l = x at *
    have Hx := Lib.hid hx
    clear hx
    have h0' : (x != 0) = true := by simpa using h0
    clear h0
    go_enter Tryd.func25, Tryd.ntmps25
    go_wp2_with fail
    refine (check_any _ _ c l _ (hl.below hb3) (by omega)).mono ?_
    rw [Hx.out]
    rintro e w1 ⟨rfl, hb1⟩
    have hz1 := hb1.size
    simp at hz1
    obtain ⟨hcc, hcf⟩ := bcell hb1
    have e1 : w1.cell? ⟨w.heap.size + 1, 0, none⟩ = some (.bool false) := (hcc _ _ (by first | omega | (simp; omega) | simp)).trans (Boxed.cell (t := 4) (Boxed.alloc (by have := Boxed.new (w.alloc (.cells #[.int .i64 ch] 3)) 4 (.bool false); rwa [World.size_alloc] at this) _))
    have f1 : w1.frozen? ⟨w.heap.size + 1, 0, none⟩ = false := (hcf _ _ (by first | omega | (simp; omega) | simp)).trans (Boxed.frozen (t := 4) (v := .bool false) (Boxed.alloc (by have := Boxed.new (w.alloc (.cells #[.int .i64 ch] 3)) 4 (.bool false); rwa [World.size_alloc] at this) _))
    have n2 := Boxed.new ((w.alloc (.cells #[.int .i64 ch] 3)).alloc (.cells #[.bool false] 4)) 24 (.int .i64 0)
    simp only [World.size_alloc] at n2
    have e2 : w1.cell? ⟨w.heap.size + 1 + 1, 0, none⟩ = some (.int .i64 0) := (hcc _ _ (by first | omega | (simp; omega) | simp)).trans n2.cell
    have f2 : w1.frozen? ⟨w.heap.size + 1 + 1, 0, none⟩ = false := (hcf _ _ (by first | omega | (simp; omega) | simp)).trans n2.frozen
    clear hcc hcf n2
    have e3 : (w1.setCell ⟨w.heap.size + 1, 0, none⟩ (.bool false)).cell? ⟨w.heap.size + 1 + 1, 0, none⟩ = some (.int .i64 0) := (World.cell?_of_block (Below.heap_setCell _ _ _ _ (by simp))).trans e2
    have f3 : (w1.setCell ⟨w.heap.size + 1, 0, none⟩ (.bool false)).frozen? ⟨w.heap.size + 1 + 1, 0, none⟩ = false := (World.frozen?_of_block (Below.heap_setCell _ _ _ _ (by simp))).trans f2
    have e4 : (w1.setCell ⟨w.heap.size + 1, 0, none⟩ (.bool false)).cell? ⟨w.heap.size + 1, 0, none⟩ = some (.bool false) := World.cell?_setCell_same' _ _ _ (by rw [e1]; rfl)
    have e5 : ((w1.setCell ⟨w.heap.size + 1, 0, none⟩ (.bool false)).setCell ⟨w.heap.size + 1 + 1, 0, none⟩ (.int .i64 x)).cell? ⟨w.heap.size + 1, 0, none⟩ = some (.bool false) := (World.cell?_of_block (Below.heap_setCell _ _ _ _ (by simp))).trans e4
    have e6 : ((w1.setCell ⟨w.heap.size + 1, 0, none⟩ (.bool false)).setCell ⟨w.heap.size + 1 + 1, 0, none⟩ (.int .i64 x)).cell? ⟨w.heap.size + 1 + 1, 0, none⟩ = some (.int .i64 x) := World.cell?_setCell_same' _ _ _ (by rw [e3]; rfl)
    have hbw := ((hb3.trans (hb1.mono (by simp; omega))).setCell (p := ⟨w.heap.size + 1, 0, none⟩) (by simp) (.bool false)).setCell (p := ⟨w.heap.size + 1 + 1, 0, none⟩) (by simp; omega) (.int .i64 x)
    clear hz1 hb1 hb3
    go_wp2_with fail
    refine bodyPost_ret (v := .tuple #[.bool false, .int .i64 x]) (by simp [results, Tryd.f25, go_sem, e5, e6]) rfl ⟨by rw [hfin.out], hbw⟩

/-- what has reports -/
def hasB (l : RL) (c : Int) : Bool := decide (chk l = 0) && inB l c
set_option maxHeartbeats 1000000 in
theorem has_any (A : Option Addr) (n c : Nat) (l : RL) (ch : Int) (w : World) (hl : Rs w A n l) (hn : n ≤ 100000) (h0 : chk l = 0) :
    Calls Tryd.prog 24 #[.slice A n c, .int .i64 ch] w fun e w' => e = .returned (.bool (inB l ch)) ∧ Below w.heap.size w w' := by
  have hfin := Lib.hid (show holdsL l ch = (inB l ch, 0) from if_pos h0)
  clear h0
  cases hi : inB l ch
  all_goals
    have HI := Lib.hid hi
    clear hi
    go_enter Tryd.func24, Tryd.ntmps24
    go_wp2_with fail
    refine (holds_any _ _ c l ch _ hl hn).mono ?_
    rw [hfin.out, HI.out]
    rintro e w1 ⟨rfl, hb1⟩
    go_wp2_with fail
    go_ret
    exact ⟨rfl, hb1⟩

set_option maxHeartbeats 1000000 in
theorem refHolds_any (A : Option Addr) (n c : Nat) (l : RL) (ch : Int) (w : World) (hl : Rs w A n l) (hn : n ≤ 100000) :
    Calls Tryd.prog 26 #[.slice A n c, .int .i64 ch] w fun e w' => e = .returned (.tuple #[.bool (holdsL l ch).1, .int .i64 (holdsL l ch).2]) ∧ Below w.heap.size w w' := by
  by_cases h0 : chk l = 0
  · have hfin := Lib.hid (show holdsL l ch = (inB l ch, 0) from if_pos h0)
    have H0 := Lib.hid h0
    clear h0
    go_enter Tryd.func26, Tryd.ntmps26
    go_wp2_with fail
    refine (refCheck_any _ _ c l _ hl (by omega)).mono ?_
    rw [H0.out]
    rintro e w1 ⟨rfl, hb1⟩
    go_wp2_with fail
    refine (refIn_any _ _ c l ch _ (hl.below hb1) (by omega)).mono ?_
    rintro e w2 ⟨rfl, rfl⟩
    go_wp2_with fail
    go_ret2
    rw [hfin.out]
    exact ⟨rfl, hb1⟩
  · have hfin := Lib.hid (show holdsL l ch = (false, chk l) from if_neg h0)
    generalize hx : chk l = x at *
    have Hx := Lib.hid hx
    clear hx
    have h0' : (x != 0) = true := by simpa using h0
    clear h0
    go_enter Tryd.func26, Tryd.ntmps26
    go_wp2_with fail
    refine (refCheck_any _ _ c l _ hl (by omega)).mono ?_
    rw [Hx.out]
    rintro e w1 ⟨rfl, hb1⟩
    go_wp2_with fail
    go_ret2
    rw [hfin.out]
    exact ⟨rfl, hb1⟩

set_option maxHeartbeats 1000000 in
theorem refCount_any (A : Option Addr) (n c : Nat) (l : RL) (w : World) (hl : Rs w A n l) (hn : n ≤ 100000) :
    Calls Tryd.prog 28 #[.slice A n c] w fun e w' => e = .returned (.tuple #[.int .i64 (countL l).1, .int .i64 (countL l).2]) ∧ Below w.heap.size w w' := by
  by_cases h0 : chk l = 0
  · have hfin := Lib.hid (show countL l = (((listed l).length : Int), 0) from if_pos h0)
    have hok := Lib.hid (chk_ok h0)
    have H0 := Lib.hid h0
    clear h0
    go_enter Tryd.func28, Tryd.ntmps28
    go_wp2_with fail
    refine (refCheck_any _ _ c l _ hl (by omega)).mono ?_
    rw [H0.out]
    rintro e w1 ⟨rfl, hb1⟩
    go_wp2_with fail
    refine (refListed_any _ _ c l _ (hl.below hb1) (by omega) hok.out).mono ?_
    rintro e w2 ⟨r, rfl, A2, c2, rfl, ho, hb2⟩
    go_wp2_with fail
    go_ret2
    rw [hfin.out]
    exact ⟨rfl, hb1.trans (hb2.mono hb1.size)⟩
  · have hfin := Lib.hid (show countL l = (0, chk l) from if_neg h0)
    generalize hx : chk l = x at *
    have Hx := Lib.hid hx
    clear hx
    have h0' : (x != 0) = true := by simpa using h0
    clear h0
    go_enter Tryd.func28, Tryd.ntmps28
    go_wp2_with fail
    refine (refCheck_any _ _ c l _ hl (by omega)).mono ?_
    rw [Hx.out]
    rintro e w1 ⟨rfl, hb1⟩
    go_wp2_with fail
    go_ret2
    rw [hfin.out]
    exact ⟨rfl, hb1⟩

set_option maxHeartbeats 1000000 in
theorem refList_any (A : Option Addr) (n c : Nat) (l : RL) (w : World) (hl : Rs w A n l) (hn : n ≤ 100000) :
    Calls Tryd.prog 30 #[.slice A n c] w fun e w' => ∃ r, e = .returned (.tuple #[r, .int .i64 (listL l).2]) ∧ OutI 3 (listL l).1 w r w' := by
  by_cases h0 : chk l = 0
  · have hfin := Lib.hid (show listL l = (listed l, 0) from if_pos h0)
    have hok := Lib.hid (chk_ok h0)
    have H0 := Lib.hid h0
    clear h0
    go_enter Tryd.func30, Tryd.ntmps30
    go_wp2_with fail
    refine (refCheck_any _ _ c l _ hl (by omega)).mono ?_
    rw [H0.out]
    rintro e w1 ⟨rfl, hb1⟩
    go_wp2_with fail
    refine (refListed_any _ _ c l _ (hl.below hb1) (by omega) hok.out).mono ?_
    rintro e w2 ⟨r, rfl, ho⟩
    obtain ⟨A2, c2, rfl, ho2, hb2⟩ := ho.up hb1
    go_wp2_with fail
    go_ret2
    rw [hfin.out]
    exact ⟨_, rfl, A2, c2, rfl, ho2, hb2⟩
  · have hfin := Lib.hid (show listL l = ([], chk l) from if_neg h0)
    generalize hx : chk l = x at *
    have Hx := Lib.hid hx
    clear hx
    have h0' : (x != 0) = true := by simpa using h0
    clear h0
    go_enter Tryd.func30, Tryd.ntmps30
    go_wp2_with fail
    refine (refCheck_any _ _ c l _ hl (by omega)).mono ?_
    rw [Hx.out]
    rintro e w1 ⟨rfl, hb1⟩
    go_wp2_with fail
    go_ret2
    rw [hfin.out]
    exact ⟨_, rfl, OutI.nil hb1⟩
end Go.Proofs.YteaofninjbhiaaaDoor
