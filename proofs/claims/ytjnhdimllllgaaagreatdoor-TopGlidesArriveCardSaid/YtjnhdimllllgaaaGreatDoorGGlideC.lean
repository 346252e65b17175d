/- Lemmas and contracts of functions, joined for the claim: GIter, GAdd, GKnots, GAwake. -/
import Derived.Test.YtjnhdimllllgaaaGreatDoorGProgA
import Derived.Test.YtjnhdimllllgaaaGreatDoorGWord
import Derived.Test.YtjnhdimllllgaaaGreatDoorGGlideB
import Derived.StillTailTactics
import Derived.Laws.EntriesVeiled
import Derived.Test.YtjnhdimllllgaaaGreatDoorGGlideA
import Derived.Test.YtjnhdimllllgaaaGreatDoorGLevB
namespace Go.Proofs.YtjnhdimllllgaaaGreatDoor
open Go.RowKit Go.Shelf
attribute [local go_sem] Oper.semAt_some

theorem grown_drew (w : World) (row : Option Nat) : w.grownBy w.drew row := ⟨rfl, rfl, rfl, Nat.le_refl _, fun _ _ _ => rfl⟩
def glVal (g : Gl) : Value := .agg #[.string g.s, .int .i64 g.v, .int .i64 g.st, .int .i64 g.ti]
theorem finRange_take {n k : Nat} (h : k < n) : (List.finRange n).take (k + 1) = (List.finRange n).take k ++ [⟨k, h⟩] := by
  rw [List.take_succ_eq_append_getElem (by simpa using h)]
  simp
set_option maxRecDepth 100000 in
set_option maxHeartbeats 8000000 in
theorem succ1_in (n : Nat) (hn : 1 ≤ n) (y0 Bs n₀ : Nat) (A : Option Addr) (c : Nat) (l : List Gl) (hlen : l.length ≤ 256) (hbd : ∀ g ∈ l, 0 ≤ g.st ∧ g.st ≤ 10000000 ∧ 0 ≤ g.ti ∧ g.ti ≤ 10000000) (J Jx : List (Fin l.length) → World → Prop)
    (W : World) (hJa : AbidesFrom W.heap.size J)
    (hY : ∀ pre (x : Fin l.length) W, J pre W → pre.length < l.length → YieldAt Fence.wide (n - 1) Tryz.prog y0 #[glVal l[x], .bool (endsK l x)] W fun e W' =>
      (e = .returned (.bool true) ∧ J (pre ++ [x]) W' ∧ KpR n₀ 34 W W') ∨ (e = .returned (.bool false) ∧ Jx (pre ++ [x]) W'))
    (hn₀ : n₀ ≤ W.heap.size) (hBs : Boxed W Bs 34 (.slice A l.length c))
    (hcell : ∀ k (hk : k < l.length), ∃ b o, A = some ⟨b, o, none⟩ ∧ b < n₀ ∧ (W.cell? ⟨b, o + k * 4, none⟩ = some (.string l[k].s) ∧ W.cell? ⟨b, o + k * 4 + 1, none⟩ = some (.int .i64 l[k].v) ∧ W.cell? ⟨b, o + k * 4 + 2, none⟩ = some (.int .i64 l[k].st) ∧ W.cell? ⟨b, o + k * 4 + 3, none⟩ = some (.int .i64 l[k].ti))) (h0 : J [] W) :
    CallsIn Fence.wide n Tryz.prog 85 #[.func (.yield y0) #[] #[], .pointer (some ⟨Bs, 0, none⟩)] W fun e W' => (∃ v, e = .returned v) ∧
      ((∃ ys, ys = List.finRange l.length ∧ J ys W') ∨ (∃ pre, pre <+: List.finRange l.length ∧ Jx pre W')) := by
  have HC := Lib.hid hcell
  have HBD := Lib.hid hbd
  have HY := Lib.hid hY
  have HJA := Lib.hid hJa
  clear hcell hbd hY hJa
  have hc0 := hBs.cell
  refine callsIn_of_wp Tryz.func85 rfl trivial ?_ rfl
  simp only [Tryz.ntmps85, List.size_toArray, List.length_cons, List.length_nil, Nat.reduceAdd, Nat.reduceSub, Array.replicate_succ, Array.replicate_zero, List.push_toArray, List.append_toArray, List.nil_append, List.cons_append]
  gi_wp2
  gi_loopw [7] (fun i wr => ∃ k : Nat, k ≤ l.length ∧ i = .int .i64 k ∧ J ((List.finRange l.length).take k) wr ∧ Boxed wr Bs 34 (.slice A l.length c) ∧ Below n₀ W wr ∧ W.heap.size ≤ wr.heap.size) (fun i _ => l.length - (intOf i).toNat)
  case atStart => exact ⟨0, Nat.zero_le _, rfl, by simpa using h0, hBs, Below.refl _ _, Nat.le_refl _⟩
  case round =>
    clear hc0
    obtain ⟨k, hk, rfl, hJ, hB, hb, hsz⟩ := hrel
    have HB := Lib.hid hB
    have HJ := Lib.hid hJ
    have Hb := Lib.hid hb
    by_cases hlt : k < l.length
    · have hc0 := hB.cell
      obtain ⟨b, o, rfl, hbl, hp⟩ := HC.out k hlt
      have hcell2 : ∀ h : k + 1 < l.length, W.cell? ⟨b, o + (k + 1) * 4 + 2, none⟩ = some (.int .i64 l[k + 1].st) := fun h => by
        obtain ⟨b', o', e, _, h2⟩ := HC.out (k + 1) h
        injection e with e
        injection e with e1 e2
        subst e1; subst e2
        exact h2.2.2.1
      obtain ⟨p0, p1, p2, p3⟩ := hp
      have p0 := (hb.cell (p := ⟨b, o + k * 4, none⟩) hbl).trans p0
      have p1 := (hb.cell (p := ⟨b, o + k * 4 + 1, none⟩) hbl).trans p1
      have p2 := (hb.cell (p := ⟨b, o + k * 4 + 2, none⟩) hbl).trans p2
      have p3 := (hb.cell (p := ⟨b, o + k * 4 + 3, none⟩) hbl).trans p3
      obtain ⟨b0, b1, b2, b3⟩ := HBD.out _ (List.getElem_mem hlt)
      have Hs := Lib.hid (finRange_take hlt)
      obtain ⟨Wn, hWn⟩ : ∃ Wn, Wn = wr.alloc (.cells #[.string l[k].s, .int .i64 l[k].v, .int .i64 l[k].st, .int .i64 l[k].ti] 24) := ⟨_, rfl⟩
      have hG := GBx.fresh wr l[k].s l[k].v l[k].st l[k].ti
      rw [← hWn] at hG
      have hg0 : wr.grownBy Wn none := by rw [hWn]; exact World.grownBy_alloc _ _ _
      have hgB : wr.grownBy Wn.drew none := hg0.trans (grown_drew _ _)
      have HJ2 := Lib.hid (HJA.out _ _ _ none hJ hgB (fun r e => by cases e))
      have HB2 := Lib.hid (show Boxed Wn.drew Bs 34 (.slice (some ⟨b, o, none⟩) l.length c) from hB.kept hgB (by simp))
      have hb2 : Below n₀ W Wn.drew := hb.grown hgB (Nat.le_trans hn₀ hsz) (fun _ e => by cases e)
      have Hb2 := Lib.hid hb2
      have hbn := hgB.size
      have Hsz2 := Lib.hid (Nat.le_trans hsz hbn)
      obtain ⟨-, c0, c1, c2, c3⟩ := hG
      have hYk : YieldAt Fence.wide (n - 1) Tryz.prog y0 #[.agg #[.string l[k].s, .int .i64 l[k].v, .int .i64 l[k].st, .int .i64 l[k].ti], .bool (endsK l k)] Wn.drew _ := HY.out ((List.finRange l.length).take k) ⟨k, hlt⟩ Wn.drew HJ2.out (by simp; omega)
      have hcB := HB2.out.cell
      have HWn := Lib.hid hWn
      have hcl : ∀ h : k + 1 < l.length, Wn.drew.cell? ⟨b, o + (k + 1) * 4 + 2, none⟩ = some (.int .i64 l[k + 1].st) := fun h => (hb2.cell (p := ⟨b, o + (k + 1) * 4 + 2, none⟩) hbl).trans (hcell2 h)
      have hend : endsK l k = (if h : k + 1 < l.length then decide (l[k].st + l[k].ti ≤ l[k + 1].st) else true) := by
        unfold endsK
        rw [List.getElem?_eq_getElem hlt]
        by_cases h : k + 1 < l.length
        · rw [dif_pos h, List.getElem?_eq_getElem h]
        · rw [dif_neg h, List.getElem?_eq_none (by omega)]
      have HEn := Lib.hid hend
      have i0 : (0 : Int) ≤ (k : Int) := by omega
      have i1 : (k : Int) < (l.length : Int) := by omega
      have i2 : (0 : Int) ≤ (k : Int) + 1 := by omega
      have w1 : IntKind.i64.wrap ((k : Int) + 1) = (k : Int) + 1 := IntWalk.i64_in _ (by omega)
      have w2 : IntKind.i64.wrap (l[k].st + l[k].ti) = l[k].st + l[k].ti := IntWalk.i64_in _ (by omega)
      have d0 : Wn.drew.cell? ⟨wr.heap.size, 0, none⟩ = some (.string l[k].s) := c0
      have d1 : Wn.drew.cell? ⟨wr.heap.size, 1, none⟩ = some (.int .i64 l[k].v) := c1
      have d2 : Wn.drew.cell? ⟨wr.heap.size, 2, none⟩ = some (.int .i64 l[k].st) := c2
      have d3 : Wn.drew.cell? ⟨wr.heap.size, 3, none⟩ = some (.int .i64 l[k].ti) := c3
      clear hJ hB hb hWn hg0 hgB hb2 hend hcell2
      by_cases hk1 : k + 1 < l.length
      · have e := HEn.out
        rw [dif_pos hk1] at e
        rw [e] at hYk
        have q2 := hcl hk1
        have i3 : (k : Int) + 1 < (l.length : Int) := by omega
        have g1 : ((k : Int) + 1 == (l.length : Int)) = false := by rw [beq_eq_false_iff_ne]; omega
        clear hcl e
        generalize l[k + 1].st = T2 at *
        generalize l[k].s = S at *
        generalize l[k].v = V at *
        generalize l[k].st = T at *
        generalize l[k].ti = I at *
        obtain ⟨fn, tmps, assign, body, hy, hRd⟩ := hYk
        gi_wp2
        rw [← HWn.out]
        refine wpIn_region_still_tailW 21 (by kernel_rfl) (by kernel_rfl) (by kernel_rfl) ?_
        simp only [List.take_succ_cons, List.take_zero, List.drop_succ_cons, List.drop_zero]
        refine Shut.out ?_
        repeat (refine hid_step (fun K hK => ?_); go_simp; refine hK _ ?_; clear hK K)
        refine hid_nil ?_
        change wpListIn _ _ _ _ _ _ _ Wn.drew
        gi_wp2
        refine hRd.mono ?_
        clear hRd hy
        rintro e W3 (⟨rfl, hJ3, hk3⟩ | ⟨rfl, hJx3⟩)
        · gi_wp2
          go_roundw
          case rel =>
            have h3 := hk3.2 Bs _ HB2.out
            refine ⟨k + 1, by omega, by go_num, by rw [Hs.out]; exact hJ3, h3, Hb2.out.trans hk3.1, Nat.le_trans Hsz2.out hk3.1.size⟩
          case measure => first | (simp [intOf]; omega) | simp [intOf]
        · gi_wp2
          refine bodyPost_ret (results_none rfl _ _ _) rfl ?_
          refine ⟨⟨_, rfl⟩, .inr ⟨_, ?_, hJx3⟩⟩
          rw [← Hs.out]
          exact List.take_prefix _ _
      · have e := HEn.out
        rw [dif_neg hk1] at e
        rw [e] at hYk
        have g1 : ((k : Int) + 1 == (l.length : Int)) = true := by rw [beq_iff_eq]; omega
        clear hcl e
        generalize l[k].s = S at *
        generalize l[k].v = V at *
        generalize l[k].st = T at *
        generalize l[k].ti = I at *
        obtain ⟨fn, tmps, assign, body, hy, hRd⟩ := hYk
        gi_wp2
        rw [← HWn.out]
        refine wpIn_region_still_tailW 21 (by kernel_rfl) (by kernel_rfl) (by kernel_rfl) ?_
        simp only [List.take_succ_cons, List.take_zero, List.drop_succ_cons, List.drop_zero]
        refine Shut.out ?_
        repeat (refine hid_step (fun K hK => ?_); go_simp; refine hK _ ?_; clear hK K)
        refine hid_nil ?_
        change wpListIn _ _ _ _ _ _ _ Wn.drew
        gi_wp2
        refine hRd.mono ?_
        clear hRd hy
        rintro e W3 (⟨rfl, hJ3, hk3⟩ | ⟨rfl, hJx3⟩)
        · gi_wp2
          go_roundw
          case rel =>
            have h3 := hk3.2 Bs _ HB2.out
            refine ⟨k + 1, by omega, by go_num, by rw [Hs.out]; exact hJ3, h3, Hb2.out.trans hk3.1, Nat.le_trans Hsz2.out hk3.1.size⟩
          case measure => first | (simp [intOf]; omega) | simp [intOf]
        · gi_wp2
          refine bodyPost_ret (results_none rfl _ _ _) rfl ?_
          refine ⟨⟨_, rfl⟩, .inr ⟨_, ?_, hJx3⟩⟩
          rw [← Hs.out]
          exact List.take_prefix _ _
    · obtain rfl : k = l.length := by omega
      have e : (List.finRange l.length).take l.length = List.finRange l.length := List.take_of_length_le (by simp)
      rw [e] at HJ
      gi_wp2
      go_end0
      exact ⟨⟨_, rfl⟩, .inl ⟨_, rfl, HJ.out⟩⟩

set_option maxHeartbeats 1000000 in
theorem succ_in (n : Nat) (A : Option Addr) (len c : Nat) (w : World) :
    CallsIn Fence.wide n Tryz.prog 62 #[.slice A len c] w fun e w' => e = .returned (.func (.func 85) #[] #[.pointer (some ⟨w.heap.size, 0, none⟩)]) ∧ w' = w.alloc (.cells #[.slice A len c] 34) := by
  refine callsIn_of_wp Tryz.func62 rfl trivial ?_ rfl
  simp only [Tryz.ntmps62, List.size_toArray, List.length_cons, List.length_nil, Nat.reduceAdd, Nat.reduceSub, Array.replicate_succ, Array.replicate_zero, List.push_toArray, List.append_toArray, List.nil_append, List.cons_append]
  gi_wp2
  go_ret
  exact ⟨rfl, rfl⟩
theorem succ_stops (n : Nat) (hn : 1 ≤ n) (Bs n₀ : Nat) (A : Option Addr) (c : Nat) (l : List Gl) (hlen : l.length ≤ 256) (hbd : ∀ g ∈ l, 0 ≤ g.st ∧ g.st ≤ 10000000 ∧ 0 ≤ g.ti ∧ g.ti ≤ 10000000) (w : World) (hn₀ : n₀ ≤ w.heap.size)
    (hBs : Boxed w Bs 34 (.slice A l.length c))
    (hcell : ∀ k (hk : k < l.length), ∃ b o, A = some ⟨b, o, none⟩ ∧ b < n₀ ∧ (w.cell? ⟨b, o + k * 4, none⟩ = some (.string l[k].s) ∧ w.cell? ⟨b, o + k * 4 + 1, none⟩ = some (.int .i64 l[k].v) ∧ w.cell? ⟨b, o + k * 4 + 2, none⟩ = some (.int .i64 l[k].st) ∧ w.cell? ⟨b, o + k * 4 + 3, none⟩ = some (.int .i64 l[k].ti))) :
    SeqStopsK Fence.wide n Tryz.prog 85 #[.pointer (some ⟨Bs, 0, none⟩)] (fun x : Fin l.length => #[glVal l[x], .bool (endsK l x)]) (KpR n₀ 34) (fun ys => ys = List.finRange l.length) (fun pre => pre <+: List.finRange l.length) l.length w := fun y J Jx W hW hJ _ hY h0 =>
  succ1_in n hn y Bs n₀ A c l hlen hbd J Jx W hJ hY (Nat.le_trans hn₀ hW.size) ((hW.block Bs hBs.lt).trans hBs) (fun k hk => by
    obtain ⟨b, o, e, hb, h1⟩ := hcell k hk
    have hb' := Nat.lt_of_lt_of_le hb hn₀
    exact ⟨b, o, e, hb, four_keep hb' h1 hW⟩) h0
end Go.Proofs.YtjnhdimllllgaaaGreatDoor

namespace Go.Proofs.YtjnhdimllllgaaaGreatDoor
open Go.RowKit Go.Shelf

def KpT (n₀ : Nat) (t1 t2 : TypeId) (W W' : World) : Prop := Below n₀ W W' ∧ (∀ (k : Nat) (c : Array Value) (t : TypeId), W.heap[k]? = some (Obj.cells c t (0, 0)) → t ≠ t1 → t ≠ t2 → W'.heap[k]? = some (Obj.cells c t (0, 0))) ∧ KeepsOthers W W'
theorem KpT.refl (n₀ : Nat) (t1 t2 : TypeId) (W : World) : KpT n₀ t1 t2 W W := ⟨Below.refl _ _, fun _ _ _ h _ _ => h, KeepsOthers.refl W⟩
theorem KpT.t {n₀ : Nat} {t1 t2 : TypeId} {A B C : World} (h : KpT n₀ t1 t2 A B) (k : KpT n₀ t1 t2 B C) : KpT n₀ t1 t2 A C := ⟨h.1.trans k.1, fun i c t hi a b => k.2.1 i c t (h.2.1 i c t hi a b) a b, h.2.2.trans k.2.2⟩
theorem KpT.of_below {n₀ : Nat} {t1 t2 : TypeId} {W W' : World} (h : Below W.heap.size W W') (hn : n₀ ≤ W.heap.size) : KpT n₀ t1 t2 W W' :=
  ⟨h.mono hn, fun k _ _ hk _ _ => (h.block k (Array.getElem?_eq_some_iff.1 hk).1).trans hk, ⟨h.size, fun k _ hk _ => (h.block k (Array.getElem?_eq_some_iff.1 hk).1).trans hk⟩⟩
theorem KpT.row {n₀ : Nat} {t1 e : TypeId} {W W' : World} {z n : Nat} {v : Value} {xs : List Value} (hrow : W.ownsRow n₀ e z v n xs) (hg : W.grownBy W' v.ownBlock) (hn : n₀ ≤ W.heap.size) : KpT n₀ t1 e W W' := by
  refine ⟨(Below.refl n₀ W).grown hg hn fun k hk => (hrow.lt k hk).1, fun k c t hk _ h2 => ?_, ?_⟩
  · rw [hg.block k (Array.getElem?_eq_some_iff.1 hk).1 (fun e' => ?_)]
    · exact hk
    · rcases hrow.2 with ⟨rfl, _⟩ | ⟨g, cap, cur, rfl, _, hgb, _⟩
      · simp [Value.ownBlock] at e'
      · obtain rfl : k = g := by simpa [Value.ownBlock] using e'
        rw [hgb] at hk
        injection hk with hk
        injection hk with _ h3
        exact h2 h3.symm
  · refine KeepsOthers.of_grownBy hg fun j o ej hj => ?_
    rcases hrow.2 with ⟨rfl, _⟩ | ⟨g, cap, cur, rfl, _, hgb, _⟩
    · simp [Value.ownBlock] at ej
    · obtain rfl : g = j := by simpa [Value.ownBlock] using ej
      rw [hgb] at hj
      injection hj with hj
      subst hj
      rfl
theorem KpT.set {n₀ : Nat} {t1 e : TypeId} {W : World} {B : Nat} {v : Value} (hv : Boxed W B t1 v) (hB : n₀ ≤ B) (u : Value) : KpT n₀ t1 e W (W.setCell ⟨B, 0, none⟩ u) :=
  ⟨(Below.refl n₀ W).setCell (p := ⟨B, 0, none⟩) hB u, fun k c t hk h1 _ => by
    rw [Below.heap_setCell _ _ _ _ (by
      intro e'
      have e' : k = B := e'
      subst e'
      rw [show W.heap[k]? = _ from hv] at hk
      injection hk with hk
      injection hk with _ h3
      exact h1 h3.symm)]
    exact hk, KeepsOthers.setCell _ _ _⟩
theorem KpT.kpr {n₀ : Nat} {t1 t2 t : TypeId} {W W' : World} (h : KpT n₀ t1 t2 W W') (a : t ≠ t1) (b : t ≠ t2) : KpR n₀ t W W' := ⟨h.1, fun k c hk => h.2.1 k c t hk a b⟩
theorem KpT.boxed {n₀ : Nat} {t1 t2 t : TypeId} {W W' : World} {B : Nat} {v : Value} (h : KpT n₀ t1 t2 W W') (hb : Boxed W B t v) (a : t ≠ t1) (b : t ≠ t2) : Boxed W' B t v := h.2.1 B _ t hb a b
theorem boxed_drewN {W : World} {B : Nat} {t : TypeId} {v : Value} (h : Boxed W B t v) (n : Nat) : Boxed (W.drewN n) B t v := h

theorem pushed {base Bo : Nat} {W W1 : World} {v v' : Value} {n m : Nat} {xs ys : List Value} (hbox : Boxed W Bo 40 v) (hown : W.ownsRow base 70 2 v n xs) (hb : base ≤ W.heap.size) (hB : base ≤ Bo)
    (hown1 : W1.ownsRow base 70 2 v' m ys) (hg : W.grownBy W1 v.ownBlock) :
    Boxed (W1.setCell ⟨Bo, 0, none⟩ v') Bo 40 v' ∧ (W1.setCell ⟨Bo, 0, none⟩ v').ownsRow base 70 2 v' m ys ∧ KpT base 40 70 W (W1.setCell ⟨Bo, 0, none⟩ v') := by
  have hv1 : Boxed W1 Bo 40 v := hbox.kept hg (hbox.not_row (by decide) hown)
  exact ⟨hv1.set v', hown1.kept (grownBy_setCell' W1 Bo v') (.inr (hv1.not_row (by decide) hown1).symm), (KpT.row hown hg hb).t (KpT.set hv1 hB v')⟩
set_option maxRecDepth 100000 in
set_option maxHeartbeats 8000000 in
theorem gadd_any (base Bo : Nat) (A : Option Addr) (n c : Nat) (l : List Kn) (a : Int) (s : ByteArray) (w : World) (hbox : Boxed w Bo 40 (.slice A n c)) (hown : w.ownsRow base 70 2 (.slice A n c) n (shK.vs l)) (hn : n = l.length) (hmax : n ≤ 100000) (hb : base ≤ w.heap.size) (hB : base ≤ Bo) :
    Calls Tryz.prog 61 #[.agg #[.int .i64 a, .string s], .pointer (some ⟨Bo, 0, none⟩)] w fun e w' => e = .returned (.tuple #[]) ∧ ∃ A' c', Boxed w' Bo 40 (.slice A' (putK l ⟨a, s⟩).length c') ∧
      w'.ownsRow base 70 2 (.slice A' (putK l ⟨a, s⟩).length c') (putK l ⟨a, s⟩).length (shK.vs (putK l ⟨a, s⟩)) ∧ KpT base 40 70 w w' := by
  subst hn
  have hin : shK.In w A l.length l := Sh.In.of_own hown rfl
  obtain ⟨W, hW⟩ : ∃ W, W = w.alloc (.cells #[.int .i64 a, .string s] 70) := ⟨_, rfl⟩
  have hG := kbx_fresh w a s 70
  have hB0 : Below w.heap.size w W := by rw [hW]; exact (Below.refl _ w).alloc (Nat.le_refl _) _
  have hbW : Boxed W Bo 40 (.slice A l.length c) := by rw [hW]; exact hbox.alloc _
  have hoW : W.ownsRow base 70 2 (.slice A l.length c) l.length (shK.vs l) := by rw [hW]; exact hown.alloc _
  have hinW := hin.below hB0
  have hc := hbW.cell
  have hf := hbW.frozen
  rw [← hW] at hG
  obtain ⟨k0, k1⟩ := hG
  have hK0 := KpT.of_below (t1 := 40) (t2 := 70) hB0 hb
  have hbs : base ≤ W.heap.size := Nat.le_trans hb hB0.size
  have HW := Lib.hid hW
  have HB := Lib.hid hbW
  have HO := Lib.hid hoW
  have HK0 := Lib.hid hK0
  have HBs := Lib.hid hbs
  have HBo := Lib.hid hB
  clear hW hB0 hK0 hin hbox hown hbW
  by_cases h0 : l.length = 0
  · obtain rfl := List.length_eq_zero_iff.1 h0
    have e : putK [] ⟨a, s⟩ = [⟨a, s⟩] := by simp [putK]
    rw [e]
    simp only [List.length_nil, List.length_cons, Nat.zero_add] at *
    clear e hinW
    go_enter Tryz.func61, Tryz.ntmps61
    go_wp2_with fail
    rw [← HW.out]
    go_quiet (fail)
    go_wp2_with (((at_builtin; refine wpList_push rfl _ _ _ rfl base _ _ 2 24 Tryz.underlying40 infoKg rfl (by omega) _ 0 _ rfl (own_drewN HO.out nq) [.int .i64 a, .string s] _ _ _ rfl (by first | rfl | simp) rfl (kn_one _ _) (by unfold maxLen; omega) (by omega) (by first | omega | (simp; omega) | simp) ?_; intro g cap w1 hown1 hg1)); have HG1 := Lib.hid hg1; have HW1 := Lib.hid hown1; have hv1 := Boxed.kept (boxed_drewN HB.out nq) hg1 (HB.out.not_row (by decide) HO.out); have hc1 := hv1.cell; have hf1 := hv1.frozen; clear hg1 hown1 hv1)
    obtain ⟨r1, r2, r3⟩ := pushed (boxed_drewN HB.out nq) (own_drewN HO.out nq) HBs.out HBo.out HW1.out HG1.out
    go_end0
    exact ⟨rfl, _, _, r1, by simpa [Sh.vs, shK] using r2, HK0.out.t ((KpT.of_below (below_drewN (Below.refl _ W) nq) HBs.out).t r3)⟩
  · obtain ⟨b, o, rfl, hbl, hcell⟩ := kn_at hinW (by omega)
    obtain ⟨c0, c1⟩ := hcell (l.length - 1) (by omega)
    have hiff := last_iff (k := ⟨a, s⟩) (l := l) (by omega)
    rw [kn_ext] at hiff
    generalize l[l.length - 1] = q at *
    obtain ⟨x, y⟩ := q
    have Hiff := Lib.hid hiff
    clear hiff hcell hinW
    have w1 : IntKind.i64.wrap ((l.length : Int) - 1) = ((l.length - 1 : Nat) : Int) := by rw [IntWalk.i64_in _ (by omega)]; omega
    have w2 : ((l.length : Int) - 1).toNat = l.length - 1 := by omega
    have w3 : (0 : Int) ≤ ((l.length - 1 : Nat) : Int) := by omega
    have w4 : ((l.length - 1 : Nat) : Int) < (l.length : Int) := by omega
    have g0 : ((l.length : Int) == 0) = false := by rw [beq_eq_false_iff_ne]; omega
    simp only at c0 c1
    by_cases h1 : x = a ∧ y = s
    · obtain ⟨rfl, rfl⟩ := h1
      have e := putK_same (Hiff.out.2 ⟨rfl, rfl⟩)
      rw [e]
      clear e Hiff
      go_enter Tryz.func61, Tryz.ntmps61
      go_wp2_with fail
      rw [← HW.out]
      go_quiet (fail)
      go_wp2
      go_end0
      exact ⟨rfl, _, _, boxed_drewN HB.out nq, own_drewN HO.out nq, HK0.out.t (KpT.of_below (below_drewN (Below.refl _ W) nq) HBs.out)⟩
    · have e := putK_new (l := l) (k := ⟨a, s⟩) (fun h => h1 (Hiff.out.1 h))
      rw [e, vsK_snoc, List.length_append, List.length_cons, List.length_nil, Nat.zero_add]
      clear e Hiff
      by_cases h2 : x = a
      all_goals
        first
          | have g2 : (y.toList == s.toList) = false := by rw [bytes_beq, decide_eq_false (fun h => h1 ⟨h2, h⟩)]
            subst h2
          | have g2 : (x == a) = false := by simpa using h2
        clear h1
        go_enter Tryz.func61, Tryz.ntmps61
        go_wp2_with fail
        rw [← HW.out]
        go_quiet (fail)
        go_wp2_with (((at_builtin; refine wpList_push rfl _ _ _ rfl base _ _ 2 24 Tryz.underlying40 infoKg rfl (by omega) _ l.length _ rfl (own_drewN HO.out nq) [.int .i64 _, .string s] _ _ _ rfl (by first | rfl | simp) rfl (kn_one _ _) (by unfold maxLen; omega) (by omega) (by first | omega | (simp; omega) | simp) ?_; intro g cap w1 hown1 hg1)); have HG1 := Lib.hid hg1; have HW1 := Lib.hid hown1; have hv1 := Boxed.kept (boxed_drewN HB.out nq) hg1 (HB.out.not_row (by decide) HO.out); have hc1 := hv1.cell; have hf1 := hv1.frozen; clear hg1 hown1 hv1)
        obtain ⟨r1, r2, r3⟩ := pushed (boxed_drewN HB.out nq) (own_drewN HO.out nq) HBs.out HBo.out HW1.out HG1.out
        go_end0
        exact ⟨rfl, _, _, r1, r2, HK0.out.t ((KpT.of_below (below_drewN (Below.refl _ W) nq) HBs.out).t r3)⟩
end Go.Proofs.YtjnhdimllllgaaaGreatDoor

namespace Go.Proofs.YtjnhdimllllgaaaGreatDoor
open Go.RowKit Go.Shelf
attribute [local go_sem] Oper.semAt_some

def knL (l : List Gl) (pre : List (Fin l.length)) : List Kn := pre.foldl (fun o (x : Fin l.length) => stepK o l[x] (endsK l x)) []
theorem knL_snoc (l : List Gl) (pre : List (Fin l.length)) (x : Fin l.length) : knL l (pre ++ [x]) = stepK (knL l pre) l[x] (endsK l x) := by unfold knL; rw [List.foldl_append]; rfl
theorem knL_all (l : List Gl) : knL l (List.finRange l.length) = knK l l.length := by
  have h : ∀ k, k ≤ l.length → knL l ((List.finRange l.length).take k) = knK l k := by
    intro k
    induction k with
    | zero => intro _; simp [knL, knK]
    | succ k ih =>
      intro hk
      rw [finRange_take (show k < l.length by omega), knL_snoc, ih (by omega), knK_succ (show k < l.length by omega)]
      rfl
  have := h l.length (Nat.le_refl _)
  rwa [List.take_of_length_le (by simp)] at this
theorem step_len (o : List Kn) (g : Gl) (e : Bool) : (stepK o g e).length ≤ o.length + 2 := by
  unfold stepK
  have a := put_len2 o ⟨g.st, g.s⟩
  have b := put_len2 (putK o ⟨g.st, g.s⟩) ⟨g.st + g.ti, sR (g.v : Rat)⟩
  split <;> omega
theorem knL_len (l : List Gl) (pre : List (Fin l.length)) : (knL l pre).length ≤ 2 * pre.length := by
  unfold knL
  suffices h : ∀ (pre : List (Fin l.length)) (o : List Kn), (pre.foldl (fun o (x : Fin l.length) => stepK o l[x] (endsK l x)) o).length ≤ o.length + 2 * pre.length by simpa using h pre []
  intro pre
  induction pre with
  | nil => intro o; simp
  | cons x pre ih =>
    intro o
    rw [List.foldl_cons]
    have a := ih (stepK o l[x] (endsK l x))
    have b := step_len o l[x] (endsK l x)
    rw [List.length_cons]
    omega

def KnJ (w1 : World) (K : List Kn) (W : World) : Prop :=
  ((∃ A c, Boxed W w1.heap.size 40 (.slice A K.length c) ∧ W.ownsRow w1.heap.size 70 2 (.slice A K.length c) K.length (shK.vs K)) ∧
    Boxed W (w1.heap.size + 1) 100 (.func (.func 61) #[] #[.pointer (some ⟨w1.heap.size, 0, none⟩)])) ∧ Below w1.heap.size w1 W

def GAt (W : World) (P : Nat) (g : Gl) : Prop := W.heap[P]? = some (.cells #[.string g.s, .int .i64 g.v, .int .i64 g.st, .int .i64 g.ti] 24 (0, 0))
theorem knj_own (l : List Gl) (w1 : World) (B : Nat) (h : w1.heap.size ≤ B) : OwnFrom B (fun (pre : List (Fin l.length)) W => KnJ w1 (knL l pre) W) :=
  OwnFrom.and (Own.from (fun (_ : List (Fin l.length)) _ _ _ hs hg hr => ⟨hs.1.imp fun _ h => h.imp fun _ h => ⟨Boxed.own h.1 hg hr, own_keep h.2 hg hr⟩, Boxed.own hs.2 hg hr⟩) _) (ownFrom_below (Nat.le_refl _) h)
theorem gat_own (P : Nat) (g : Gl) : Own (fun (_ : Unit) W => GAt W P g) := fun _ _ _ _ hs hg hr => by
  refine (hg.block P (Array.getElem?_eq_some_iff.1 hs).1 fun e => ?_).trans hs
  obtain ⟨o, ho, hc⟩ := hr P e.symm
  rw [show _ = _ from hs] at ho
  cases ho
  simp [Obj.isCells] at hc
set_option maxRecDepth 100000 in
set_option maxHeartbeats 8000000 in
theorem gknots_any (A : Option Addr) (n c : Nat) (l : List Gl) (w : World) (hl : shG.In w A n l) (hn : n ≤ 9223372036854775807) (hs : l.length ≤ 256 → ∀ g ∈ l, g.s.size ≤ 1000) (ht : Tab w) :
    Calls Tryz.prog 19 #[.slice A n c] w fun e w' => ∃ r, e = .returned (.tuple #[r, .int .i64 (chT l)]) ∧ shK.Out 70 (knT l) w r w' := by
  obtain ⟨rfl, _⟩ := id hl
  have HC := Lib.hid (fun w hl ht => gchain_any A l.length c l w hl hn hs ht)
  have hV : knT l = if chT l ≠ 0 then [] else knK l l.length := rfl
  have hB := Below.refl w.heap.size w
  have HL := Lib.hid hl
  have HT := Lib.hid ht
  by_cases h1 : chT l = 0
  · rw [if_neg (by simpa using h1)] at hV
    rw [hV]
    rw [h1] at HC ⊢
    obtain ⟨hl256, hch⟩ := chT_le h1
    have Hch := Lib.hid hch
    have Hs := Lib.hid (hs hl256)
    have hbd : ∀ g ∈ l, 0 ≤ g.st ∧ g.st ≤ 10000000 ∧ 0 ≤ g.ti ∧ g.ti ≤ 10000000 := fun g hg => err_bd (Hs.out g hg) ((chF_up Hch.out).1 g hg)
    have HBD := Lib.hid hbd
    clear hch h1 hs hl hV ht hbd
    refine (callsIn_wide (n := 5)).1 ?_
    refine callsIn_of_wp_marks Tryz.func19 rfl trivial ?_ rfl
    simp only [Tryz.ntmps19, List.size_toArray, List.length_cons, List.length_nil, Nat.reduceAdd, Nat.reduceSub, Array.replicate_succ, Array.replicate_zero, List.push_toArray, List.append_toArray, List.nil_append, List.cons_append]
    gi_wp2_with (first | (refine ⟨trivial, ?_⟩; gi_at_call 21; refine (callsIn_wide.2 (HC.out _ HL.out HT.out)).mono ?_; rintro e w1 ⟨rfl, hb1⟩; have hz1 := hb1.size) | (refine ⟨trivial, ?_⟩; gi_at_call 62; refine (succ_in _ _ _ _ _).mono ?_; rintro e w' ⟨rfl, rfl⟩))
    have hcell : ∀ k (hk : k < l.length), ∃ b o, A = some ⟨b, o, none⟩ ∧ b < w1.heap.size ∧ (w1.cell? ⟨b, o + k * 4, none⟩ = some (.string l[k].s) ∧ w1.cell? ⟨b, o + k * 4 + 1, none⟩ = some (.int .i64 l[k].v) ∧ w1.cell? ⟨b, o + k * 4 + 2, none⟩ = some (.int .i64 l[k].st) ∧ w1.cell? ⟨b, o + k * 4 + 3, none⟩ = some (.int .i64 l[k].ti)) := fun k hk => by
      obtain ⟨b, o, e, hb, h⟩ := gl_at (HL.out.below hb1) (by omega)
      exact ⟨b, o, e, hb, h k hk⟩
    have bO := Boxed.new w1 40 (.slice none 0 0)
    have bF := Boxed.new (w1.alloc (.cells #[.slice none 0 0] 40)) 100 (.func (.func 61) #[] #[.pointer (some ⟨w1.heap.size, 0, none⟩)])
    have bN := Boxed.new ((w1.alloc (.cells #[.slice none 0 0] 40)).alloc (.cells #[.func (.func 61) #[] #[.pointer (some ⟨w1.heap.size, 0, none⟩)]] 100)) 34 (.slice A l.length c)
    rw [World.size_alloc] at bF
    rw [World.size_alloc, World.size_alloc] at bN
    have hB1 : Below w1.heap.size w1 (w1.alloc (.cells #[.slice none 0 0] 40)) := (Below.refl _ w1).alloc (Nat.le_refl _) _
    have hB2 := hB1.alloc hB1.size (.cells #[.func (.func 61) #[] #[.pointer (some ⟨w1.heap.size, 0, none⟩)]] 100)
    have hB3 := hB2.alloc hB2.size (.cells #[.slice A l.length c] 34)
    refine wpIn_rangeFunc_ownH rfl (by omega) (gf := 85) (lb := #[.pointer (some ⟨w1.heap.size + 1 + 1, 0, none⟩)]) rfl trivial (enters_of Tryz.func85 (by kernel_rfl) rfl)
      (succ_stops 4 (by omega) (w1.heap.size + 1 + 1) w1.heap.size A c l hl256 HBD.out _ hB3.size bN (fun k hk => by
        obtain ⟨b, o, e, hb, h⟩ := hcell k hk
        exact ⟨b, o, e, hb, four_keep hb h hB3⟩)) KpR.t (KpR.b hB3.size) (Below.refl _ _) (fun _ => rfl)
      (fun pre W => KnJ w1 (knL l pre) W)
      (fun _ _ _ => False)
      (knj_own l w1 _ hB3.size)
      (fun _ _ _ _ _ hs _ _ => hs)
      ⟨⟨⟨none, 0, (bO.alloc _).alloc _, (by exact World.ownsRow_nil _ _ _ _)⟩, bF.alloc _⟩, hB3⟩
      (fun x a' W => ∃ P, a' = { tmps := #[.slice A l.length c, undef, .slice none 0 0, .int .i64 0, .int .i64 0, .pointer (some ⟨w1.heap.size, 0, none⟩), .pointer (some ⟨w1.heap.size + 1, 0, none⟩), .pointer (some ⟨P, 0, none⟩), .bool (endsK l x), .slice A l.length c, .int .i64 0, .int .i64 0, .bool false, undef, .func (.func 61) #[] #[.pointer (some ⟨w1.heap.size, 0, none⟩)], .slice A l.length c, .func (.func 85) #[] #[.pointer (some ⟨w1.heap.size + 1 + 1, 0, none⟩)], (.agg #[.string l[x].s, .int .i64 l[x].v, .int .i64 l[x].st, .int .i64 l[x].ti]), .bool (endsK l x), undef, undef, undef, undef, undef, undef, undef, undef, undef, undef, undef, undef, undef, undef, undef, undef, undef, undef, undef, undef], defers := [] } ∧ GAt W P l[x])
      ?own ?assign ?body ?done ?stop
    case own =>
      intro x a'
      exact Own.from (fun s A' B' row hs hg hr => hs.imp fun P h => ⟨h.1, gat_own P _ () A' B' row h.2 hg hr⟩) _
    case assign =>
      intro lp pre x W K hI hK
      have hsz := hI.2.size
      have hI2 := fun o => (knj_own l w1 _ hB3.size).alloc o hI
      dsimp only [glVal]
      gi_wp2
      exact hK _ _ ((KeepsOthers.alloc W _).from _) ((KpR.refl _ _ W).alloc hsz _) (hI2 _) ⟨W.heap.size, rfl, World.alloc_heap_new W _⟩
    case body =>
      rintro lp pre x a' W hlp hrec ⟨⟨⟨A0, c0, hbx, hrow⟩, hbf⟩, hB⟩ ⟨P, rfl, hG⟩ hlt
      have hm : l[x] ∈ l := List.getElem_mem x.isLt
      obtain ⟨b0, b1, b2, b3⟩ := HBD.out _ hm
      obtain ⟨r, -, -, -, -, v0, v1, -⟩ := errG_zero (Hs.out _ hm) ((chF_up Hch.out).1 _ hm)
      have hlen := knL_len l pre
      have HSt := Lib.hid (knL_snoc l pre x)
      obtain ⟨g, hg⟩ : ∃ g, l[x] = g := ⟨_, rfl⟩
      rw [hg] at hG b0 b1 b2 b3 v0 v1 HSt ⊢
      obtain ⟨e, he⟩ : ∃ e, endsK l x = e := ⟨_, rfl⟩
      rw [he] at HSt ⊢
      clear hm hg he
      obtain ⟨S, V, T, I⟩ := g
      dsimp only at b0 b1 b2 b3 v0 v1 ⊢
      generalize knL l pre = K0 at *
      have cF := hbf.cell
      have cG0 : W.cell? ⟨P, 0, none⟩ = some (.string S) := cell_of_row W _ 0 _ _ _ hG
      have cG1 : W.cell? ⟨P, 1, none⟩ = some (.int .i64 V) := cell_of_row W _ 1 _ _ _ hG
      have cG2 : W.cell? ⟨P, 2, none⟩ = some (.int .i64 T) := cell_of_row W _ 2 _ _ _ hG
      have cG3 : W.cell? ⟨P, 3, none⟩ = some (.int .i64 I) := cell_of_row W _ 3 _ _ _ hG
      have HB1w := Lib.hid hb1
      have HA1 := Lib.hid (gadd_any w1.heap.size w1.heap.size A0 K0.length c0 K0 T S W hbx hrow rfl (by omega) hB.size (Nat.le_refl _))
      have HStep := Lib.hid (show ∀ e, stepK K0 ⟨S, V, T, I⟩ e = if e then putK (putK K0 ⟨T, S⟩) ⟨T + I, sR (V : Rat)⟩ else putK K0 ⟨T, S⟩ from fun _ => rfl)
      have hlen1 := put_len2 K0 ⟨T, S⟩
      generalize putK K0 ⟨T, S⟩ = K1 at *
      have HB := Lib.hid hB
      have HG := Lib.hid hG
      have HBf := Lib.hid hbf
      clear hbx hrow hbf hB hG
      cases e with
      | false =>
        gi_wp2_with (refine ⟨trivial, ?_⟩; gi_at_call 61; refine (callsIn_wide.2 HA1.out).mono ?_; rintro e W1 ⟨rfl, A1, c1, hb1, hr1, hk1⟩)
        refine ⟨hk1.2.2.from _, hk1.kpr (by decide) (by decide), ?_⟩
        show KnJ w1 (knL l (pre ++ [x])) W1
        rw [HSt.out, HStep.out, if_neg (by decide)]
        exact ⟨⟨⟨A1, c1, hb1, hr1⟩, hk1.boxed HBf.out (by decide) (by decide)⟩, HB.out.trans hk1.1⟩
      | true =>
        gi_wp2_with (refine ⟨trivial, ?_⟩; gi_at_call 61; refine (callsIn_wide.2 HA1.out).mono ?_; rintro e W1 ⟨rfl, A1, c1, hb1, hr1, hk1⟩)
        have HWh := Lib.hid (fun w ht => qwhole_fit (x := V) (by omega) (by omega) w ht)
        have HA2 := Lib.hid (fun w2 h1 h2 h3 => gadd_any w1.heap.size w1.heap.size A1 K1.length c1 K1 (T + I) (sR (V : Rat)) w2 h1 h2 rfl (by omega) h3 (Nat.le_refl _))
        have HStep := Lib.hid (HStep.out true)
        rw [if_pos rfl] at HStep
        have w4 : IntKind.i64.wrap (T + I) = T + I := IntWalk.i64_in _ (by omega)
        obtain ⟨Q, hQ⟩ : ∃ Q, sR (V : Rat) = Q := ⟨_, rfl⟩
        rw [hQ] at HWh HA2 HStep
        obtain ⟨K2, hK2⟩ : ∃ K2, putK K1 ⟨T + I, Q⟩ = K2 := ⟨_, rfl⟩
        rw [hK2] at HA2 HStep
        obtain ⟨Inv, hInv⟩ : ∃ Inv : World → Prop, Inv = fun w2 => (Boxed w2 w1.heap.size 40 (.slice A1 K1.length c1) ∧ w2.ownsRow w1.heap.size 70 2 (.slice A1 K1.length c1) K1.length (shK.vs K1)) ∧ Boxed w2 (w1.heap.size + 1) 100 (.func (.func 61) #[] #[.pointer (some ⟨w1.heap.size, 0, none⟩)]) ∧ GAt w2 P ⟨S, V, T, I⟩ ∧ KpT w1.heap.size 40 70 W w2 ∧ Tab w2 ∧ w1.heap.size ≤ w2.heap.size := ⟨_, rfl⟩
        obtain ⟨Fin, hFin⟩ : ∃ Fin : World → Prop, Fin = fun w2 => ∃ A2 c2, Boxed w2 w1.heap.size 40 (.slice A2 K2.length c2) ∧ w2.ownsRow w1.heap.size 70 2 (.slice A2 K2.length c2) K2.length (shK.vs K2) ∧ KpT w1.heap.size 40 70 W w2 := ⟨_, rfl⟩
        have HCl := Lib.hid (show ∀ w2, Inv w2 → w2.cell? ⟨w1.heap.size + 1, 0, none⟩ = some (.func (.func 61) #[] #[.pointer (some ⟨w1.heap.size, 0, none⟩)]) ∧ w2.cell? ⟨P, 1, none⟩ = some (.int .i64 V) ∧ w2.cell? ⟨P, 2, none⟩ = some (.int .i64 T) ∧ w2.cell? ⟨P, 3, none⟩ = some (.int .i64 I) from fun w2 h => by
          rw [hInv] at h
          obtain ⟨-, h2, h3, -⟩ := h
          exact ⟨h2.cell, cell_of_row w2 _ 1 _ _ _ h3, cell_of_row w2 _ 2 _ _ _ h3, cell_of_row w2 _ 3 _ _ _ h3⟩)
        have HTb := Lib.hid (show ∀ w2, Inv w2 → Tab w2 from fun w2 h => by rw [hInv] at h; exact h.2.2.2.2.1)
        have HOw := Lib.hid (show ∀ w2, Inv w2 → Boxed w2 w1.heap.size 40 (.slice A1 K1.length c1) ∧ w2.ownsRow w1.heap.size 70 2 (.slice A1 K1.length c1) K1.length (shK.vs K1) ∧ w1.heap.size ≤ w2.heap.size from fun w2 h => by rw [hInv] at h; exact ⟨h.1.1, h.1.2, h.2.2.2.2.2⟩)
        have HNx := Lib.hid (show ∀ w2 w3, Inv w2 → Below w2.heap.size w2 w3 → Inv w3 from fun w2 w3 h hb => by
          rw [hInv] at h ⊢
          obtain ⟨⟨x1, x2⟩, x3, x4, x5, x6, x7⟩ := h
          have hk := KpT.of_below (t1 := 40) (t2 := 70) hb x7
          exact ⟨⟨(hb.block _ x1.lt).trans x1, own_below x2 hb⟩, (hb.block _ x3.lt).trans x3, (hb.block _ (Array.getElem?_eq_some_iff.1 x4).1).trans x4, x5.t hk, x6.below hb, Nat.le_trans x7 hb.size⟩)
        have HFn := Lib.hid (show ∀ w2 w3 A2 c2, Inv w2 → Boxed w3 w1.heap.size 40 (.slice A2 K2.length c2) → w3.ownsRow w1.heap.size 70 2 (.slice A2 K2.length c2) K2.length (shK.vs K2) → KpT w1.heap.size 40 70 w2 w3 → Fin w3 from fun w2 w3 A2 c2 h h1 h2 h3 => by
          rw [hInv] at h
          rw [hFin]
          exact ⟨A2, c2, h1, h2, h.2.2.2.1.t h3⟩)
        have hI0 : Inv W1.drew := by
          rw [hInv]
          refine ⟨⟨hb1, hr1⟩, hk1.boxed HBf.out (by decide) (by decide), hk1.2.1 _ _ _ HG.out (by decide) (by decide), hk1.t (KpT.of_below (below_drewN (Below.refl _ W1) 1) (Nat.le_trans HB.out.size hk1.1.size)), ?_, Nat.le_trans HB.out.size hk1.1.size⟩
          exact (HT.out.below HB1w.out).below (below_drewN (HB.out.trans hk1.1) 1)
        refine wpIn_region_any (by kernel_rfl) ?_
        refine wpAnyIn_rel (fun b a w2 => a = (match b with
          | [b0, b1, b2, b3, b4, b5, b6, b7, b8, b9, b10] => { tmps := #[.slice A l.length c, undef, .slice none 0 0, .int .i64 0, .int .i64 0, .pointer (some ⟨w1.heap.size, 0, none⟩), .pointer (some ⟨w1.heap.size + 1, 0, none⟩), .pointer (some ⟨P, 0, none⟩), .bool true, .slice A l.length c, .int .i64 0, .int .i64 0, .bool false, undef, .func (.func 61) #[] #[.pointer (some ⟨w1.heap.size, 0, none⟩)], .slice A l.length c, .func (.func 85) #[] #[.pointer (some ⟨w1.heap.size + 1 + 1, 0, none⟩)], .agg #[.string S, .int .i64 V, .int .i64 T, .int .i64 I], .bool true, .func (.func 61) #[] #[.pointer (some ⟨w1.heap.size, 0, none⟩)], .pointer (some ⟨P, 2, none⟩), .int .i64 T, .pointer (some ⟨P, 0, none⟩), .string S, .agg #[.int .i64 T, .string S], .tuple #[], .bool true,
              bif b0 then .func (.func 61) #[] #[.pointer (some ⟨w1.heap.size, 0, none⟩)] else undef, bif b1 then .pointer (some ⟨P, 2, none⟩) else undef, bif b2 then .int .i64 T else undef, bif b3 then .pointer (some ⟨P, 3, none⟩) else undef, bif b4 then .int .i64 I else undef, bif b5 then .int .i64 (T + I) else undef, bif b6 then .pointer (some ⟨P, 1, none⟩) else undef, bif b7 then .int .i64 V else undef, bif b8 then .string Q else undef, bif b9 then .agg #[.int .i64 (T + I), .string Q] else undef, bif b10 then .tuple #[] else undef, undef], defers := [] }
          | _ => { tmps := #[], defers := [] }) ∧ (match b with
          | [_, _, _, _, _, _, _, _, _, _, b10] => if b10 then Fin w2 else Inv w2
          | _ => False))
          (by kernel_rfl) ?step ?fin 11 [false, false, false, false, false, false, false, false, false, false, false] _ _ ⟨rfl, fun i o _ h => by
            have hi : i < 11 := (List.getElem?_eq_some_iff.1 h).1
            obtain rfl | rfl | rfl | rfl | rfl | rfl | rfl | rfl | rfl | rfl | rfl : i = 0 ∨ i = 1 ∨ i = 2 ∨ i = 3 ∨ i = 4 ∨ i = 5 ∨ i = 6 ∨ i = 7 ∨ i = 8 ∨ i = 9 ∨ i = 10 := by omega
            all_goals (simp at h)⟩ (by simp) ⟨rfl, hI0⟩
        case step =>
          clear hI0
          intro b i a wx hb hi ⟨ha, hS⟩
          obtain ⟨b0, b1, b2, b3, b4, b5, b6, b7, b8, b9, b10, rfl⟩ := list11 (show b.length = 11 from hb.1)
          subst ha
          obtain ⟨h1, o, ho, hall⟩ := mem_ready.1 hi
          have hlt : i < 11 := (Array.getElem?_eq_some_iff.1 ho).1
          have hclo := hb.2
          clear hb hi
          obtain rfl | rfl | rfl | rfl | rfl | rfl | rfl | rfl | rfl | rfl | rfl : i = 0 ∨ i = 1 ∨ i = 2 ∨ i = 3 ∨ i = 4 ∨ i = 5 ∨ i = 6 ∨ i = 7 ∨ i = 8 ∨ i = 9 ∨ i = 10 := by omega
          · obtain rfl : b0 = false := by simpa using h1
            obtain rfl := Option.some.inj ho
            obtain rfl : b10 = false := by
              cases b10
              · rfl
              · have := hclo 10 _ rfl rfl ⟨0, .data⟩ (by simp) rfl
                simp at this
            clear hall hclo h1 ho hlt
            replace hS : Inv wx := hS
            obtain ⟨cF, cG1, cG2, cG3⟩ := HCl.out wx hS
            refine wpOpIn_step rfl (fun K' hK' => ?_)
            go_simp
            exact hK' _ _ ⟨rfl, hS⟩
          · obtain rfl : b1 = false := by simpa using h1
            obtain rfl := Option.some.inj ho
            obtain rfl : b10 = false := by
              cases b10
              · rfl
              · obtain rfl : b9 = true := by simpa using hclo 10 _ rfl rfl ⟨9, .data⟩ (by simp) rfl
                obtain rfl : b5 = true := by simpa using hclo 9 _ rfl rfl ⟨5, .data⟩ (by simp) rfl
                obtain rfl : b2 = true := by simpa using hclo 5 _ rfl rfl ⟨2, .data⟩ (by simp) rfl
                have := hclo 2 _ rfl rfl ⟨1, .data⟩ (by simp) rfl
                simp at this
            clear hall hclo h1 ho hlt
            replace hS : Inv wx := hS
            obtain ⟨cF, cG1, cG2, cG3⟩ := HCl.out wx hS
            refine wpOpIn_step rfl (fun K' hK' => ?_)
            go_simp
            exact hK' _ _ ⟨rfl, hS⟩
          · obtain rfl : b2 = false := by simpa using h1
            obtain rfl := Option.some.inj ho
            obtain rfl : b1 = true := by simpa using hall ⟨1, .data⟩ (by simp) rfl
            obtain rfl : b10 = false := by
              cases b10
              · rfl
              · obtain rfl : b9 = true := by simpa using hclo 10 _ rfl rfl ⟨9, .data⟩ (by simp) rfl
                obtain rfl : b5 = true := by simpa using hclo 9 _ rfl rfl ⟨5, .data⟩ (by simp) rfl
                have := hclo 5 _ rfl rfl ⟨2, .data⟩ (by simp) rfl
                simp at this
            clear hall hclo h1 ho hlt
            replace hS : Inv wx := hS
            obtain ⟨cF, cG1, cG2, cG3⟩ := HCl.out wx hS
            refine wpOpIn_step rfl (fun K' hK' => ?_)
            go_simp
            exact hK' _ _ ⟨rfl, hS⟩
          · obtain rfl : b3 = false := by simpa using h1
            obtain rfl := Option.some.inj ho
            obtain rfl : b10 = false := by
              cases b10
              · rfl
              · obtain rfl : b9 = true := by simpa using hclo 10 _ rfl rfl ⟨9, .data⟩ (by simp) rfl
                obtain rfl : b5 = true := by simpa using hclo 9 _ rfl rfl ⟨5, .data⟩ (by simp) rfl
                obtain rfl : b4 = true := by simpa using hclo 5 _ rfl rfl ⟨4, .data⟩ (by simp) rfl
                have := hclo 4 _ rfl rfl ⟨3, .data⟩ (by simp) rfl
                simp at this
            clear hall hclo h1 ho hlt
            replace hS : Inv wx := hS
            obtain ⟨cF, cG1, cG2, cG3⟩ := HCl.out wx hS
            refine wpOpIn_step rfl (fun K' hK' => ?_)
            go_simp
            exact hK' _ _ ⟨rfl, hS⟩
          · obtain rfl : b4 = false := by simpa using h1
            obtain rfl := Option.some.inj ho
            obtain rfl : b3 = true := by simpa using hall ⟨3, .data⟩ (by simp) rfl
            obtain rfl : b10 = false := by
              cases b10
              · rfl
              · obtain rfl : b9 = true := by simpa using hclo 10 _ rfl rfl ⟨9, .data⟩ (by simp) rfl
                obtain rfl : b5 = true := by simpa using hclo 9 _ rfl rfl ⟨5, .data⟩ (by simp) rfl
                have := hclo 5 _ rfl rfl ⟨4, .data⟩ (by simp) rfl
                simp at this
            clear hall hclo h1 ho hlt
            replace hS : Inv wx := hS
            obtain ⟨cF, cG1, cG2, cG3⟩ := HCl.out wx hS
            refine wpOpIn_step rfl (fun K' hK' => ?_)
            go_simp
            exact hK' _ _ ⟨rfl, hS⟩
          · obtain rfl : b5 = false := by simpa using h1
            obtain rfl := Option.some.inj ho
            obtain rfl : b2 = true := by simpa using hall ⟨2, .data⟩ (by simp) rfl
            obtain rfl : b4 = true := by simpa using hall ⟨4, .data⟩ (by simp) rfl
            obtain rfl : b10 = false := by
              cases b10
              · rfl
              · obtain rfl : b9 = true := by simpa using hclo 10 _ rfl rfl ⟨9, .data⟩ (by simp) rfl
                have := hclo 9 _ rfl rfl ⟨5, .data⟩ (by simp) rfl
                simp at this
            clear hall hclo h1 ho hlt
            replace hS : Inv wx := hS
            obtain ⟨cF, cG1, cG2, cG3⟩ := HCl.out wx hS
            refine wpOpIn_step rfl (fun K' hK' => ?_)
            go_simp
            exact hK' _ _ ⟨rfl, hS⟩
          · obtain rfl : b6 = false := by simpa using h1
            obtain rfl := Option.some.inj ho
            obtain rfl : b10 = false := by
              cases b10
              · rfl
              · obtain rfl : b8 = true := by simpa using hclo 10 _ rfl rfl ⟨8, .chain⟩ (by simp) rfl
                obtain rfl : b7 = true := by simpa using hclo 8 _ rfl rfl ⟨7, .data⟩ (by simp) rfl
                have := hclo 7 _ rfl rfl ⟨6, .data⟩ (by simp) rfl
                simp at this
            clear hall hclo h1 ho hlt
            replace hS : Inv wx := hS
            obtain ⟨cF, cG1, cG2, cG3⟩ := HCl.out wx hS
            refine wpOpIn_step rfl (fun K' hK' => ?_)
            go_simp
            exact hK' _ _ ⟨rfl, hS⟩
          · obtain rfl : b7 = false := by simpa using h1
            obtain rfl := Option.some.inj ho
            obtain rfl : b6 = true := by simpa using hall ⟨6, .data⟩ (by simp) rfl
            obtain rfl : b10 = false := by
              cases b10
              · rfl
              · obtain rfl : b8 = true := by simpa using hclo 10 _ rfl rfl ⟨8, .chain⟩ (by simp) rfl
                have := hclo 8 _ rfl rfl ⟨7, .data⟩ (by simp) rfl
                simp at this
            clear hall hclo h1 ho hlt
            replace hS : Inv wx := hS
            obtain ⟨cF, cG1, cG2, cG3⟩ := HCl.out wx hS
            refine wpOpIn_step rfl (fun K' hK' => ?_)
            go_simp
            exact hK' _ _ ⟨rfl, hS⟩
          · obtain rfl : b8 = false := by simpa using h1
            obtain rfl := Option.some.inj ho
            obtain rfl : b7 = true := by simpa using hall ⟨7, .data⟩ (by simp) rfl
            obtain rfl : b10 = false := by
              cases b10
              · rfl
              · have := hclo 10 _ rfl rfl ⟨8, .chain⟩ (by simp) rfl
                simp at this
            clear hall hclo h1 ho hlt
            replace hS : Inv wx := hS
            obtain ⟨cF, cG1, cG2, cG3⟩ := HCl.out wx hS
            refine wpOpIn_step rfl (fun K' hK' => ?_)
            go_simp
            refine ⟨trivial, ?_⟩
            gi_at_call 63
            refine (callsIn_wide.2 (HWh.out _ (HTb.out wx hS))).mono ?_
            rintro e w3 ⟨rfl, hb⟩
            exact hK' _ _ ⟨rfl, HNx.out wx w3 hS hb⟩
          · obtain rfl : b9 = false := by simpa using h1
            obtain rfl := Option.some.inj ho
            obtain rfl : b5 = true := by simpa using hall ⟨5, .data⟩ (by simp) rfl
            obtain rfl : b8 = true := by simpa using hall ⟨8, .data⟩ (by simp) rfl
            obtain rfl : b10 = false := by
              cases b10
              · rfl
              · have := hclo 10 _ rfl rfl ⟨9, .data⟩ (by simp) rfl
                simp at this
            clear hall hclo h1 ho hlt
            replace hS : Inv wx := hS
            obtain ⟨cF, cG1, cG2, cG3⟩ := HCl.out wx hS
            refine wpOpIn_step rfl (fun K' hK' => ?_)
            go_simp
            exact hK' _ _ ⟨rfl, hS⟩
          · obtain rfl : b10 = false := by simpa using h1
            obtain rfl := Option.some.inj ho
            obtain rfl : b0 = true := by simpa using hall ⟨0, .data⟩ (by simp) rfl
            obtain rfl : b9 = true := by simpa using hall ⟨9, .data⟩ (by simp) rfl
            obtain rfl : b8 = true := by simpa using hall ⟨8, .chain⟩ (by simp) rfl
            clear hall hclo h1 ho hlt
            replace hS : Inv wx := hS
            obtain ⟨cF, cG1, cG2, cG3⟩ := HCl.out wx hS
            obtain ⟨hx1, hx2, hx3⟩ := HOw.out wx hS
            refine wpOpIn_step rfl (fun K' hK' => ?_)
            go_simp
            refine ⟨trivial, ?_⟩
            gi_at_call 61
            refine (callsIn_wide.2 (HA2.out wx hx1 hx2 hx3)).mono ?_
            rintro e w3 ⟨rfl, A2, c2, hb2, hr2, hk2⟩
            exact hK' _ _ ⟨rfl, HFn.out wx w3 A2 c2 hS hb2 hr2 hk2⟩

        case fin =>
          rintro b a w2 hb hall ⟨-, hS⟩
          obtain ⟨b0, b1, b2, b3, b4, b5, b6, b7, b8, b9, b10, rfl⟩ := list11 (show b.length = 11 from hb)
          obtain rfl : b10 = true := by simpa using hall 10 (by decide)
          replace hS : Fin w2 := hS
          rw [hFin] at hS
          obtain ⟨A2, c2, h1, h2, h3⟩ := hS
          gi_wp2
          refine ⟨h3.2.2.from _, h3.kpr (by decide) (by decide), ?_⟩
          show KnJ w1 (knL l (pre ++ [x])) w2
          rw [HSt.out, HStep.out]
          exact ⟨⟨⟨A2, c2, h1, h2⟩, h3.boxed HBf.out (by decide) (by decide)⟩, HB.out.trans h3.1⟩
    case done =>
      rintro D ys W hD rfl ⟨⟨⟨A', c', hbx, hrow⟩, -⟩, hB⟩ hK
      rw [knL_all] at hbx hrow
      have hc := hbx.cell
      gi_wp2
      refine ⟨by simp, .inl ⟨_, _, rfl, run_takeDeferred hK, ?_⟩⟩
      refine ⟨_, results_tmp2 rfl _ _ _, ?_⟩
      have hBB := hB.trans (belowK_b (w := w1) (Nat.le_refl _) W D _ (.deferred none) (by simp at hD; omega) hK rfl rfl)
      exact ⟨_, rfl, A', c', rfl, own_mono (ownsRow_putObj hrow _ hK rfl) hz1, hb1.trans (hBB.mono hz1)⟩
    case stop =>
      rintro D c pre W _ _ h _
      exact h.elim
  · have g1 : (chT l == 0) = false := by simpa using h1
    have g2 : (chT l != 0) = true := by simpa using h1
    rw [if_pos h1] at hV
    rw [hV]
    generalize chT l = k at *
    clear hV hl h1 ht
    go_enter Tryz.func19, Tryz.ntmps19
    go_wp2_with (go_at_call 21; with_reducible refine (HC.out _ (HL.out.below hB) (HT.out.below hB)).mono ?_; rintro e wk ⟨rfl, hb⟩; replace hB := hB.trans (hb.mono hB.size); clear hb)
    go_ret2
    exact ⟨_, rfl, Sh.Out.nil hB⟩
end Go.Proofs.YtjnhdimllllgaaaGreatDoor

namespace Go.Proofs.YtjnhdimllllgaaaGreatDoor
open Go.RowKit

theorem rT_int (z : Int) : rT (z : Rat) = Lib.itoa z := by unfold rT; rw [Rat.den_intCast, if_pos rfl, Rat.num_intCast]
theorem tx0 : sR ((0 : Int) : Rat) = ⟨#[48]⟩ := (sR_of (by rw [rT_int, dig_one 0 (by decide) (by decide)]; rfl)).symm
theorem tx7 : sR ((7 : Int) : Rat) = ⟨#[55]⟩ := (sR_of (by rw [rT_int, dig_one 7 (by decide) (by decide)]; rfl)).symm
theorem tx9 : sR ((9 : Int) : Rat) = ⟨#[57]⟩ := (sR_of (by rw [rT_int, dig_one 9 (by decide) (by decide)]; rfl)).symm
theorem tx125 : sR ((125 : Int) : Rat) = ⟨#[49, 50, 53]⟩ := (sR_of (by rw [rT_int, dig_three 125 (by decide) (by decide)]; rfl)).symm
theorem tx250 : sR ((250 : Int) : Rat) = ⟨#[50, 53, 48]⟩ := (sR_of (by rw [rT_int, dig_three 250 (by decide) (by decide)]; rfl)).symm
theorem tx500 : sR ((500 : Int) : Rat) = ⟨#[53, 48, 48]⟩ := (sR_of (by rw [rT_int, dig_three 500 (by decide) (by decide)]; rfl)).symm
theorem dig_four (z : Int) (h0 : 1000 ≤ z) (h1 : z < 10000) : Lib.itoa z = [dg1 (z.natAbs / 10 / 10 / 10), dg1 (z.natAbs / 10 / 10 % 10), dg1 (z.natAbs / 10 % 10), dg1 (z.natAbs % 10)] := by rw [itoa_pos' (by omega), dec_big (by omega), dec_big (by omega), dec_big (by omega), dec_small (by omega)]; rfl
theorem tx1000 : sR ((1000 : Int) : Rat) = ⟨#[49, 48, 48, 48]⟩ := (sR_of (by rw [rT_int, dig_four 1000 (by decide) (by decide)]; rfl)).symm
theorem errG_int {z v st ti : Int} (h0 : 0 ≤ z) (h1 : z ≤ 65535) (a0 : 0 ≤ v) (a1 : v ≤ 65535) (b0 : 0 ≤ st) (b1 : st ≤ 10000000) (d0 : 0 ≤ ti) (d1 : ti ≤ 10000000) : errG (sR (z : Rat)).data.toList v st ti = 0 := by
  unfold errG
  rw [sR_list, rT_int, (errLv_int h0 h1).1, if_neg (by decide), if_pos (by simp [inT]; omega)]
theorem e1 : errG (⟨#[48]⟩ : ByteArray).data.toList 1000 200 400 = 0 := by rw [← tx0]; exact errG_int (by decide) (by decide) (by decide) (by decide) (by decide) (by decide) (by decide) (by decide)
theorem of_text {z y v st ti t : Int} (h : lvR (z : Rat) v st ti t = (y : Rat)) : ofT (sR (z : Rat)) v st ti t = sR (y : Rat) := by rw [ofT_lv, h]
theorem at_text {z y v st ti t : Int} (e : errG (sR (z : Rat)).data.toList v st ti = 0) (h : lvR (z : Rat) v st ti t = (y : Rat)) : atT (sR (z : Rat)) v st ti t = sR (y : Rat) := by
  unfold atT
  rw [if_neg (fun hn => hn e), of_text h]
def exG : Gl := ⟨⟨#[48]⟩, 1000, 200, 400⟩
def exH : Gl := ⟨⟨#[50, 53, 48]⟩, 0, 300, 100⟩
def exI : Gl := ⟨⟨#[55]⟩, 9, 5, 0⟩
theorem exG_err : exG.err = 0 := e1
theorem exH_err : exH.err = 0 := by
  show errG (⟨#[50, 53, 48]⟩ : ByteArray).data.toList 0 300 100 = 0
  rw [← tx250]; exact errG_int (by decide) (by decide) (by decide) (by decide) (by decide) (by decide) (by decide) (by decide)
theorem exI_err : exI.err = 0 := by
  show errG (⟨#[55]⟩ : ByteArray).data.toList 9 5 0 = 0
  rw [← tx7]; exact errG_int (by decide) (by decide) (by decide) (by decide) (by decide) (by decide) (by decide) (by decide)
theorem exG_300 : exG.of 300 = ⟨#[50, 53, 48]⟩ := by
  show ofT ⟨#[48]⟩ 1000 200 400 300 = _
  rw [← tx0, of_text (y := 250) (by decide +kernel), tx250]
theorem ex_chain : chT [exG, exH] = 0 := by
  unfold chT
  rw [if_neg (by decide), chF_cons, if_neg (fun hn => hn exG_err)]
  show chF (some exG) [exH] = 0
  rw [chF_cons, if_neg (fun hn => hn exH_err)]
  show (if (300 : Int) < 200 then (9 : Int) else if (⟨#[50, 53, 48]⟩ : ByteArray) ≠ exG.of 300 then 3 else chF (some exH) []) = 0
  rw [if_neg (by decide), exG_300, if_neg (by simp), chF_nil]
theorem ex_one : chT [exI] = 0 := by
  unfold chT
  rw [if_neg (by decide), chF_cons, if_neg (fun hn => hn exI_err)]
  show chF (some exI) [] = 0
  rw [chF_nil]
theorem ex_val : valL [exG, exH] 350 = ⟨#[49, 50, 53]⟩ ∧ errV [exG, exH] = 0 := by
  have e : errV [exG, exH] = 0 := by unfold errV; rw [ex_chain, if_neg (by decide), if_neg (by decide)]
  refine ⟨?_, e⟩
  unfold valL
  rw [e, if_neg (by decide)]
  show ofT ⟨#[50, 53, 48]⟩ 0 300 100 350 = _
  rw [← tx250, of_text (y := 125) (by decide +kernel), tx125]
theorem ex_kn2 : knT [exG, exH] = [⟨200, ⟨#[48]⟩⟩, ⟨300, ⟨#[50, 53, 48]⟩⟩, ⟨400, ⟨#[48]⟩⟩] := by
  unfold knT
  rw [ex_chain, if_neg (by decide)]
  have e : knK [exG, exH] [exG, exH].length = putK (putK (putK [] ⟨200, ⟨#[48]⟩⟩) ⟨300, ⟨#[50, 53, 48]⟩⟩) ⟨400, sR ((0 : Int) : Rat)⟩ := rfl
  rw [e, tx0]
  simp [putK]
theorem ex_kn1 : knT [exI] = [⟨5, ⟨#[55]⟩⟩, ⟨5, ⟨#[57]⟩⟩] := by
  unfold knT
  rw [ex_one, if_neg (by decide)]
  have e : knK [exI] [exI].length = putK (putK [] ⟨5, ⟨#[55]⟩⟩) ⟨5, sR ((9 : Int) : Rat)⟩ := rfl
  rw [e, tx9]
  simp [putK]
theorem in2 (w : World) (t : TypeId) (b : Nat) (hb : b = w.heap.size) : shG.In (w.alloc (.cells #[.string ⟨#[48]⟩, .int .i64 1000, .int .i64 200, .int .i64 400, .string ⟨#[50, 53, 48]⟩, .int .i64 0, .int .i64 300, .int .i64 100] t)) (some ⟨b, 0, none⟩) 2 [exG, exH] := Sh.In.fresh w [exG, exH] t b hb
theorem in1 (w : World) (t : TypeId) (b : Nat) (hb : b = w.heap.size) : shG.In (w.alloc (.cells #[.string ⟨#[55]⟩, .int .i64 9, .int .i64 5, .int .i64 0] t)) (some ⟨b, 0, none⟩) 1 [exI] := Sh.In.fresh w [exI] t b hb
theorem kin3 (w : World) (t : TypeId) (b : Nat) (hb : b = w.heap.size) : shK.In (w.alloc (.cells #[.int .i64 200, .string ⟨#[48]⟩, .int .i64 300, .string ⟨#[50, 53, 48]⟩, .int .i64 400, .string ⟨#[48]⟩] t)) (some ⟨b, 0, none⟩) 3 [⟨200, ⟨#[48]⟩⟩, ⟨300, ⟨#[50, 53, 48]⟩⟩, ⟨400, ⟨#[48]⟩⟩] := Sh.In.fresh (S := shK) w [⟨200, ⟨#[48]⟩⟩, ⟨300, ⟨#[50, 53, 48]⟩⟩, ⟨400, ⟨#[48]⟩⟩] t b hb
theorem kin2 (w : World) (t : TypeId) (b : Nat) (hb : b = w.heap.size) : shK.In (w.alloc (.cells #[.int .i64 5, .string ⟨#[55]⟩, .int .i64 5, .string ⟨#[57]⟩] t)) (some ⟨b, 0, none⟩) 2 [⟨5, ⟨#[55]⟩⟩, ⟨5, ⟨#[57]⟩⟩] := Sh.In.fresh (S := shK) w [⟨5, ⟨#[55]⟩⟩, ⟨5, ⟨#[57]⟩⟩] t b hb
theorem ex_go : errGo (⟨#[48]⟩ : ByteArray).data.toList 1000 200 400 300 0 100 = 0 ∧ goT ⟨#[48]⟩ 1000 200 400 300 0 100 = .agg #[.string ⟨#[50, 53, 48]⟩, .int .i64 0, .int .i64 300, .int .i64 100] := by
  have e : errGo (⟨#[48]⟩ : ByteArray).data.toList 1000 200 400 300 0 100 = 0 := by
    unfold errGo
    rw [e1, if_neg (by decide), if_pos (by decide)]
  refine ⟨e, ?_⟩
  unfold goT
  rw [e, if_neg (by decide)]
  show Value.agg #[.string (exG.of 300), _, _, _] = _
  rw [exG_300]
set_option maxRecDepth 100000 in
set_option maxHeartbeats 16000000 in
theorem gawake_any (w : World) (ht : Tab w) : Calls Tryz.prog 13 #[] w fun e w' => e = .returned (.bool true) ∧ Below w.heap.size w w' := by
  have HT := Lib.hid ht
  have HA0 := Lib.hid (fun w ht => (show Calls Tryz.prog 28 #[.agg #[.string ⟨#[48]⟩, .int .i64 1000, .int .i64 200, .int .i64 400], .int .i64 0] w fun e w' => e = .returned (.tuple #[.string ⟨#[48]⟩, .int .i64 0]) ∧ Below w.heap.size w w' by
    have := gat_any ⟨#[48]⟩ 1000 200 400 0 w (by decide) (by decide) (by decide) ht
    rw [e1, show atT ⟨#[48]⟩ 1000 200 400 0 = ⟨#[48]⟩ by rw [← tx0, at_text (y := 0) (by rw [tx0]; exact e1) (by decide +kernel), tx0]] at this
    exact this))
  have HA1 := Lib.hid (fun w ht => (show Calls Tryz.prog 28 #[.agg #[.string ⟨#[48]⟩, .int .i64 1000, .int .i64 200, .int .i64 400], .int .i64 200] w fun e w' => e = .returned (.tuple #[.string ⟨#[48]⟩, .int .i64 0]) ∧ Below w.heap.size w w' by
    have := gat_any ⟨#[48]⟩ 1000 200 400 200 w (by decide) (by decide) (by decide) ht
    rw [e1, show atT ⟨#[48]⟩ 1000 200 400 200 = ⟨#[48]⟩ by rw [← tx0, at_text (y := 0) (by rw [tx0]; exact e1) (by decide +kernel), tx0]] at this
    exact this))
  have HA2 := Lib.hid (fun w ht => (show Calls Tryz.prog 28 #[.agg #[.string ⟨#[48]⟩, .int .i64 1000, .int .i64 200, .int .i64 400], .int .i64 300] w fun e w' => e = .returned (.tuple #[.string ⟨#[50, 53, 48]⟩, .int .i64 0]) ∧ Below w.heap.size w w' by
    have := gat_any ⟨#[48]⟩ 1000 200 400 300 w (by decide) (by decide) (by decide) ht
    rw [e1, show atT ⟨#[48]⟩ 1000 200 400 300 = ⟨#[50, 53, 48]⟩ by rw [← tx0, at_text (y := 250) (by rw [tx0]; exact e1) (by decide +kernel), tx250]] at this
    exact this))
  have HA3 := Lib.hid (fun w ht => (show Calls Tryz.prog 28 #[.agg #[.string ⟨#[48]⟩, .int .i64 1000, .int .i64 200, .int .i64 400], .int .i64 400] w fun e w' => e = .returned (.tuple #[.string ⟨#[53, 48, 48]⟩, .int .i64 0]) ∧ Below w.heap.size w w' by
    have := gat_any ⟨#[48]⟩ 1000 200 400 400 w (by decide) (by decide) (by decide) ht
    rw [e1, show atT ⟨#[48]⟩ 1000 200 400 400 = ⟨#[53, 48, 48]⟩ by rw [← tx0, at_text (y := 500) (by rw [tx0]; exact e1) (by decide +kernel), tx500]] at this
    exact this))
  have HA4 := Lib.hid (fun w ht => (show Calls Tryz.prog 28 #[.agg #[.string ⟨#[48]⟩, .int .i64 1000, .int .i64 200, .int .i64 400], .int .i64 600] w fun e w' => e = .returned (.tuple #[.string ⟨#[49, 48, 48, 48]⟩, .int .i64 0]) ∧ Below w.heap.size w w' by
    have := gat_any ⟨#[48]⟩ 1000 200 400 600 w (by decide) (by decide) (by decide) ht
    rw [e1, show atT ⟨#[48]⟩ 1000 200 400 600 = ⟨#[49, 48, 48, 48]⟩ by rw [← tx0, at_text (y := 1000) (by rw [tx0]; exact e1) (by decide +kernel), tx1000]] at this
    exact this))
  have HA5 := Lib.hid (fun w ht => (show Calls Tryz.prog 28 #[.agg #[.string ⟨#[48]⟩, .int .i64 1000, .int .i64 200, .int .i64 400], .int .i64 9000] w fun e w' => e = .returned (.tuple #[.string ⟨#[49, 48, 48, 48]⟩, .int .i64 0]) ∧ Below w.heap.size w w' by
    have := gat_any ⟨#[48]⟩ 1000 200 400 9000 w (by decide) (by decide) (by decide) ht
    rw [e1, show atT ⟨#[48]⟩ 1000 200 400 9000 = ⟨#[49, 48, 48, 48]⟩ by rw [← tx0, at_text (y := 1000) (by rw [tx0]; exact e1) (by decide +kernel), tx1000]] at this
    exact this))
  have HGo := Lib.hid (fun w ht => (show Calls Tryz.prog 14 #[.agg #[.string ⟨#[48]⟩, .int .i64 1000, .int .i64 200, .int .i64 400], .int .i64 300, .int .i64 0, .int .i64 100] w fun e w' => e = .returned (.tuple #[.agg #[.string ⟨#[50, 53, 48]⟩, .int .i64 0, .int .i64 300, .int .i64 100], .int .i64 0]) ∧ Below w.heap.size w w' by
    have := ggo_any ⟨#[48]⟩ 1000 200 400 300 0 100 w (by decide) (by decide) (by decide) ht
    rw [ex_go.1, ex_go.2] at this
    exact this))
  have hs2 : ∀ g ∈ [exG, exH], g.s.size ≤ 1000 := by decide
  have hs1 : ∀ g ∈ [exI], g.s.size ≤ 1000 := by decide
  have HVa := Lib.hid (fun A n c w hl ht => (show Calls Tryz.prog 17 #[.slice A n c, .int .i64 350] w fun e w' => e = .returned (.tuple #[.string ⟨#[49, 50, 53]⟩, .int .i64 0]) ∧ Below w.heap.size w w' by
    have := gvalue_any A n c [exG, exH] 350 w hl (by have := hl.1; rw [this]; decide) (fun _ => hs2) (by decide) (by decide) ht
    rw [ex_val.1, ex_val.2] at this
    exact this))
  have HK2 := Lib.hid (fun A n c w hl ht => (show Calls Tryz.prog 19 #[.slice A n c] w fun e w' => ∃ r, e = .returned (.tuple #[r, .int .i64 0]) ∧ shK.Out 70 [⟨200, ⟨#[48]⟩⟩, ⟨300, ⟨#[50, 53, 48]⟩⟩, ⟨400, ⟨#[48]⟩⟩] w r w' by
    have := gknots_any A n c [exG, exH] w hl (by have := hl.1; rw [this]; decide) (fun _ => hs2) ht
    rw [ex_chain, ex_kn2] at this
    exact this))
  have HK1 := Lib.hid (fun A n c w hl ht => (show Calls Tryz.prog 19 #[.slice A n c] w fun e w' => ∃ r, e = .returned (.tuple #[r, .int .i64 0]) ∧ shK.Out 70 [⟨5, ⟨#[55]⟩⟩, ⟨5, ⟨#[57]⟩⟩] w r w' by
    have := gknots_any A n c [exI] w hl (by have := hl.1; rw [this]; decide) (fun _ => hs1) ht
    rw [ex_one, ex_kn1] at this
    exact this))
  clear ht hs1 hs2
  go_enter Tryz.func13, Tryz.ntmps13
  go_wp2
  generalize hW : World.alloc (World.alloc w _) _ = W
  have hs : W.heap.size = w.heap.size + 1 + 1 := by rw [← hW]; simp
  have hBW : Below w.heap.size w W := by rw [← hW]; exact ((Below.refl _ w).alloc (Nat.le_refl _) _).alloc (by simp) _
  have g0 : W.cell? ⟨w.heap.size, 0, none⟩ = some (.string ⟨#[48]⟩) := by rw [← hW]; simp
  have g1 : W.cell? ⟨w.heap.size, 1, none⟩ = some (.int .i64 1000) := by rw [← hW]; simp
  have g2 : W.cell? ⟨w.heap.size, 2, none⟩ = some (.int .i64 200) := by rw [← hW]; simp
  have g3 : W.cell? ⟨w.heap.size, 3, none⟩ = some (.int .i64 400) := by rw [← hW]; simp
  have HGb := Lib.hid (show GBx ⟨#[48]⟩ 1000 200 400 w.heap.size W from ⟨by omega, g0, g1, g2, g3⟩)
  have C0 := Lib.hid (show W.cell? ⟨w.heap.size + 1, 0, none⟩ = some (.int .i64 0) by rw [← hW, World.cell?_alloc_at _ _ _ _ (by simp)]; rfl)
  have C1 := Lib.hid (show W.cell? ⟨w.heap.size + 1, 1, none⟩ = some (.string ⟨#[48]⟩) by rw [← hW, World.cell?_alloc_at _ _ _ _ (by simp)]; rfl)
  have C2 := Lib.hid (show W.cell? ⟨w.heap.size + 1, 2, none⟩ = some (.int .i64 200) by rw [← hW, World.cell?_alloc_at _ _ _ _ (by simp)]; rfl)
  have C3 := Lib.hid (show W.cell? ⟨w.heap.size + 1, 3, none⟩ = some (.string ⟨#[48]⟩) by rw [← hW, World.cell?_alloc_at _ _ _ _ (by simp)]; rfl)
  have C4 := Lib.hid (show W.cell? ⟨w.heap.size + 1, 4, none⟩ = some (.int .i64 300) by rw [← hW, World.cell?_alloc_at _ _ _ _ (by simp)]; rfl)
  have C5 := Lib.hid (show W.cell? ⟨w.heap.size + 1, 5, none⟩ = some (.string ⟨#[50, 53, 48]⟩) by rw [← hW, World.cell?_alloc_at _ _ _ _ (by simp)]; rfl)
  have C6 := Lib.hid (show W.cell? ⟨w.heap.size + 1, 6, none⟩ = some (.int .i64 400) by rw [← hW, World.cell?_alloc_at _ _ _ _ (by simp)]; rfl)
  have C7 := Lib.hid (show W.cell? ⟨w.heap.size + 1, 7, none⟩ = some (.string ⟨#[53, 48, 48]⟩) by rw [← hW, World.cell?_alloc_at _ _ _ _ (by simp)]; rfl)
  have C8 := Lib.hid (show W.cell? ⟨w.heap.size + 1, 8, none⟩ = some (.int .i64 600) by rw [← hW, World.cell?_alloc_at _ _ _ _ (by simp)]; rfl)
  have C9 := Lib.hid (show W.cell? ⟨w.heap.size + 1, 9, none⟩ = some (.string ⟨#[49, 48, 48, 48]⟩) by rw [← hW, World.cell?_alloc_at _ _ _ _ (by simp)]; rfl)
  have C10 := Lib.hid (show W.cell? ⟨w.heap.size + 1, 10, none⟩ = some (.int .i64 9000) by rw [← hW, World.cell?_alloc_at _ _ _ _ (by simp)]; rfl)
  have C11 := Lib.hid (show W.cell? ⟨w.heap.size + 1, 11, none⟩ = some (.string ⟨#[49, 48, 48, 48]⟩) by rw [← hW, World.cell?_alloc_at _ _ _ _ (by simp)]; rfl)
  have HS0 := Lib.hid hs
  have HBW := Lib.hid hBW
  clear hW hs hBW g0 g1 g2 g3
  go_loopw [23] (fun iv wr => (iv = .int .i64 0 ∨ iv = .int .i64 1 ∨ iv = .int .i64 2 ∨ iv = .int .i64 3 ∨ iv = .int .i64 4 ∨ iv = .int .i64 5 ∨ iv = .int .i64 6) ∧ Below W.heap.size W wr) (fun iv _ => 6 - (intOf iv).toNat)
  case atStart => exact ⟨.inl rfl, Below.refl _ _⟩
  case round =>
    obtain ⟨hiv, hbV⟩ := hrel
    have HbV := Lib.hid hbV
    have HCc := Lib.hid (bcell hbV).1
    have L0 := Lib.hid (show w.heap.size + 1 < W.heap.size by rw [HS0.out]; omega)
    have HL := Lib.hid hbV.size
    obtain ⟨-, c0, c1, c2, c3⟩ := HGb.out.below HGb.out.lt hbV
    have hB : Below w.heap.size w wr := HBW.out.trans (hbV.mono HBW.out.size)
    have hl2 : w.heap.size < wr.heap.size := by have := hbV.size; have := L0.out; omega
    clear hbV
    rcases hiv with rfl | rfl | rfl | rfl | rfl | rfl | rfl
    · have z0 := (HCc.out _ 0 L0.out).trans C0.out
      have z1 := (HCc.out _ 1 L0.out).trans C1.out
      go_wp2_with fail
      generalize hWb : World.alloc wr _ = Wb
      have hBb : Below wr.heap.size wr Wb := by rw [← hWb]; exact (Below.refl _ wr).alloc (Nat.le_refl _) _
      have k0 : Wb.cell? ⟨wr.heap.size, 0, none⟩ = some (.int .i64 0) := by rw [← hWb, World.cell?_alloc_new]; rfl
      have k1 : Wb.cell? ⟨wr.heap.size, 1, none⟩ = some (.string ⟨#[48]⟩) := by rw [← hWb, World.cell?_alloc_new]; rfl
      have hlt : wr.heap.size < Wb.heap.size := by rw [← hWb]; simp
      have HK := Lib.hid (fun w' (h : Below Wb.heap.size Wb w') => two_keep0 hlt ⟨k0, k1⟩ h)
      obtain ⟨c0, c1, c2, c3⟩ := four_keep (o := 0) hl2 ⟨c0, c1, c2, c3⟩ hBb
      simp only [Nat.zero_add] at c1 c2 c3
      have HBb := Lib.hid hBb
      have HTb := Lib.hid ((HT.out.below hB).below hBb)
      clear hWb hBb
      go_wp2_with (go_at_call 28; refine (HA0.out _ HTb.out).mono ?_; rintro e wk ⟨rfl, hb⟩; obtain ⟨k0, k1⟩ := HK.out _ hb; have HBk := Lib.hid hb; clear hb)
      go_roundw
      case rel => exact ⟨.inr (.inl (by go_num)), HbV.out.trans ((HBb.out.trans (HBk.out.mono HBb.out.size)).mono HL.out)⟩
      case measure => first | (simp [intOf]; omega) | simp [intOf]
    · have z0 := (HCc.out _ 2 L0.out).trans C2.out
      have z1 := (HCc.out _ 3 L0.out).trans C3.out
      go_wp2_with fail
      generalize hWb : World.alloc wr _ = Wb
      have hBb : Below wr.heap.size wr Wb := by rw [← hWb]; exact (Below.refl _ wr).alloc (Nat.le_refl _) _
      have k0 : Wb.cell? ⟨wr.heap.size, 0, none⟩ = some (.int .i64 200) := by rw [← hWb, World.cell?_alloc_new]; rfl
      have k1 : Wb.cell? ⟨wr.heap.size, 1, none⟩ = some (.string ⟨#[48]⟩) := by rw [← hWb, World.cell?_alloc_new]; rfl
      have hlt : wr.heap.size < Wb.heap.size := by rw [← hWb]; simp
      have HK := Lib.hid (fun w' (h : Below Wb.heap.size Wb w') => two_keep0 hlt ⟨k0, k1⟩ h)
      obtain ⟨c0, c1, c2, c3⟩ := four_keep (o := 0) hl2 ⟨c0, c1, c2, c3⟩ hBb
      simp only [Nat.zero_add] at c1 c2 c3
      have HBb := Lib.hid hBb
      have HTb := Lib.hid ((HT.out.below hB).below hBb)
      clear hWb hBb
      go_wp2_with (go_at_call 28; refine (HA1.out _ HTb.out).mono ?_; rintro e wk ⟨rfl, hb⟩; obtain ⟨k0, k1⟩ := HK.out _ hb; have HBk := Lib.hid hb; clear hb)
      go_roundw
      case rel => exact ⟨.inr (.inr (.inl (by go_num))), HbV.out.trans ((HBb.out.trans (HBk.out.mono HBb.out.size)).mono HL.out)⟩
      case measure => first | (simp [intOf]; omega) | simp [intOf]
    · have z0 := (HCc.out _ 4 L0.out).trans C4.out
      have z1 := (HCc.out _ 5 L0.out).trans C5.out
      go_wp2_with fail
      generalize hWb : World.alloc wr _ = Wb
      have hBb : Below wr.heap.size wr Wb := by rw [← hWb]; exact (Below.refl _ wr).alloc (Nat.le_refl _) _
      have k0 : Wb.cell? ⟨wr.heap.size, 0, none⟩ = some (.int .i64 300) := by rw [← hWb, World.cell?_alloc_new]; rfl
      have k1 : Wb.cell? ⟨wr.heap.size, 1, none⟩ = some (.string ⟨#[50, 53, 48]⟩) := by rw [← hWb, World.cell?_alloc_new]; rfl
      have hlt : wr.heap.size < Wb.heap.size := by rw [← hWb]; simp
      have HK := Lib.hid (fun w' (h : Below Wb.heap.size Wb w') => two_keep0 hlt ⟨k0, k1⟩ h)
      obtain ⟨c0, c1, c2, c3⟩ := four_keep (o := 0) hl2 ⟨c0, c1, c2, c3⟩ hBb
      simp only [Nat.zero_add] at c1 c2 c3
      have HBb := Lib.hid hBb
      have HTb := Lib.hid ((HT.out.below hB).below hBb)
      clear hWb hBb
      go_wp2_with (go_at_call 28; refine (HA2.out _ HTb.out).mono ?_; rintro e wk ⟨rfl, hb⟩; obtain ⟨k0, k1⟩ := HK.out _ hb; have HBk := Lib.hid hb; clear hb)
      go_roundw
      case rel => exact ⟨.inr (.inr (.inr (.inl (by go_num)))), HbV.out.trans ((HBb.out.trans (HBk.out.mono HBb.out.size)).mono HL.out)⟩
      case measure => first | (simp [intOf]; omega) | simp [intOf]
    · have z0 := (HCc.out _ 6 L0.out).trans C6.out
      have z1 := (HCc.out _ 7 L0.out).trans C7.out
      go_wp2_with fail
      generalize hWb : World.alloc wr _ = Wb
      have hBb : Below wr.heap.size wr Wb := by rw [← hWb]; exact (Below.refl _ wr).alloc (Nat.le_refl _) _
      have k0 : Wb.cell? ⟨wr.heap.size, 0, none⟩ = some (.int .i64 400) := by rw [← hWb, World.cell?_alloc_new]; rfl
      have k1 : Wb.cell? ⟨wr.heap.size, 1, none⟩ = some (.string ⟨#[53, 48, 48]⟩) := by rw [← hWb, World.cell?_alloc_new]; rfl
      have hlt : wr.heap.size < Wb.heap.size := by rw [← hWb]; simp
      have HK := Lib.hid (fun w' (h : Below Wb.heap.size Wb w') => two_keep0 hlt ⟨k0, k1⟩ h)
      obtain ⟨c0, c1, c2, c3⟩ := four_keep (o := 0) hl2 ⟨c0, c1, c2, c3⟩ hBb
      simp only [Nat.zero_add] at c1 c2 c3
      have HBb := Lib.hid hBb
      have HTb := Lib.hid ((HT.out.below hB).below hBb)
      clear hWb hBb
      go_wp2_with (go_at_call 28; refine (HA3.out _ HTb.out).mono ?_; rintro e wk ⟨rfl, hb⟩; obtain ⟨k0, k1⟩ := HK.out _ hb; have HBk := Lib.hid hb; clear hb)
      go_roundw
      case rel => exact ⟨.inr (.inr (.inr (.inr (.inl (by go_num))))), HbV.out.trans ((HBb.out.trans (HBk.out.mono HBb.out.size)).mono HL.out)⟩
      case measure => first | (simp [intOf]; omega) | simp [intOf]
    · have z0 := (HCc.out _ 8 L0.out).trans C8.out
      have z1 := (HCc.out _ 9 L0.out).trans C9.out
      go_wp2_with fail
      generalize hWb : World.alloc wr _ = Wb
      have hBb : Below wr.heap.size wr Wb := by rw [← hWb]; exact (Below.refl _ wr).alloc (Nat.le_refl _) _
      have k0 : Wb.cell? ⟨wr.heap.size, 0, none⟩ = some (.int .i64 600) := by rw [← hWb, World.cell?_alloc_new]; rfl
      have k1 : Wb.cell? ⟨wr.heap.size, 1, none⟩ = some (.string ⟨#[49, 48, 48, 48]⟩) := by rw [← hWb, World.cell?_alloc_new]; rfl
      have hlt : wr.heap.size < Wb.heap.size := by rw [← hWb]; simp
      have HK := Lib.hid (fun w' (h : Below Wb.heap.size Wb w') => two_keep0 hlt ⟨k0, k1⟩ h)
      obtain ⟨c0, c1, c2, c3⟩ := four_keep (o := 0) hl2 ⟨c0, c1, c2, c3⟩ hBb
      simp only [Nat.zero_add] at c1 c2 c3
      have HBb := Lib.hid hBb
      have HTb := Lib.hid ((HT.out.below hB).below hBb)
      clear hWb hBb
      go_wp2_with (go_at_call 28; refine (HA4.out _ HTb.out).mono ?_; rintro e wk ⟨rfl, hb⟩; obtain ⟨k0, k1⟩ := HK.out _ hb; have HBk := Lib.hid hb; clear hb)
      go_roundw
      case rel => exact ⟨.inr (.inr (.inr (.inr (.inr (.inl (by go_num)))))), HbV.out.trans ((HBb.out.trans (HBk.out.mono HBb.out.size)).mono HL.out)⟩
      case measure => first | (simp [intOf]; omega) | simp [intOf]
    · have z0 := (HCc.out _ 10 L0.out).trans C10.out
      have z1 := (HCc.out _ 11 L0.out).trans C11.out
      go_wp2_with fail
      generalize hWb : World.alloc wr _ = Wb
      have hBb : Below wr.heap.size wr Wb := by rw [← hWb]; exact (Below.refl _ wr).alloc (Nat.le_refl _) _
      have k0 : Wb.cell? ⟨wr.heap.size, 0, none⟩ = some (.int .i64 9000) := by rw [← hWb, World.cell?_alloc_new]; rfl
      have k1 : Wb.cell? ⟨wr.heap.size, 1, none⟩ = some (.string ⟨#[49, 48, 48, 48]⟩) := by rw [← hWb, World.cell?_alloc_new]; rfl
      have hlt : wr.heap.size < Wb.heap.size := by rw [← hWb]; simp
      have HK := Lib.hid (fun w' (h : Below Wb.heap.size Wb w') => two_keep0 hlt ⟨k0, k1⟩ h)
      obtain ⟨c0, c1, c2, c3⟩ := four_keep (o := 0) hl2 ⟨c0, c1, c2, c3⟩ hBb
      simp only [Nat.zero_add] at c1 c2 c3
      have HBb := Lib.hid hBb
      have HTb := Lib.hid ((HT.out.below hB).below hBb)
      clear hWb hBb
      go_wp2_with (go_at_call 28; refine (HA5.out _ HTb.out).mono ?_; rintro e wk ⟨rfl, hb⟩; obtain ⟨k0, k1⟩ := HK.out _ hb; have HBk := Lib.hid hb; clear hb)
      go_roundw
      case rel => exact ⟨.inr (.inr (.inr (.inr (.inr (.inr (by go_num)))))), HbV.out.trans ((HBb.out.trans (HBk.out.mono HBb.out.size)).mono HL.out)⟩
      case measure => first | (simp [intOf]; omega) | simp [intOf]
    · go_wp2_with fail
      refine (HGo.out _ (HT.out.below hB)).mono ?_
      rintro e wg ⟨rfl, hb⟩
      replace hB := hB.trans (hb.mono hB.size)
      obtain ⟨c0, c1, c2, c3⟩ := four_keep (o := 0) hl2 ⟨c0, c1, c2, c3⟩ hb
      simp only [Nat.zero_add] at c1 c2 c3
      have hl3 : w.heap.size < wg.heap.size := by have := hb.size; omega
      clear hb hl2
      go_wp2_with fail
      generalize hWh : World.alloc wg _ = Wh
      have hh : GBx ⟨#[50, 53, 48]⟩ 0 300 100 wg.heap.size Wh := by rw [← hWh]; exact GBx.fresh wg _ _ _ _
      have hBh : Below wg.heap.size wg Wh := by rw [← hWh]; exact (Below.refl _ wg).alloc (Nat.le_refl _) _
      have hsh : Wh.heap.size = wg.heap.size + 1 := by rw [← hWh]; simp
      obtain ⟨c0, c1, c2, c3⟩ := four_keep (o := 0) hl3 ⟨c0, c1, c2, c3⟩ hBh
      simp only [Nat.zero_add] at c1 c2 c3
      clear hWh
      replace hB := hB.trans (hBh.mono hB.size)
      have hl4 : w.heap.size < Wh.heap.size := by omega
      have hsz4 := hB.size
      refine (HVa.out _ _ _ _ (in2 _ _ _ hsh.symm) (HT.out.below (hB.alloc hsz4 _))).mono ?_
      rintro e wv ⟨rfl, hbv⟩
      have hBv := ((Below.refl Wh.heap.size Wh).alloc (Nat.le_refl _) _).trans (hbv.mono (by simp))
      obtain ⟨c0, c1, c2, c3⟩ := four_keep (o := 0) hl4 ⟨c0, c1, c2, c3⟩ hBv
      simp only [Nat.zero_add] at c1 c2 c3
      obtain ⟨hlh, d0, d1, d2, d3⟩ := hh.below hh.lt hBv
      replace hB := hB.trans (hBv.mono hB.size)
      clear hbv hBv hBh hh
      have hl5 : w.heap.size < wv.heap.size := by omega
      go_wp2_with fail
      have hsz5 := hB.size
      refine (HK2.out _ _ _ _ (in2 _ _ _ rfl) (HT.out.below (hB.alloc hsz5 _))).mono ?_
      rintro e wn ⟨r1, rfl, A1, cc1, rfl, ho1, hbn⟩
      have hBn := ((Below.refl wv.heap.size wv).alloc (Nat.le_refl _) _).trans (hbn.mono (by simp))
      replace hB := hB.trans (hBn.mono hB.size)
      have hi1 : shK.In wn A1 3 [⟨200, ⟨#[48]⟩⟩, ⟨300, ⟨#[50, 53, 48]⟩⟩, ⟨400, ⟨#[48]⟩⟩] := Sh.In.of_own ho1 rfl
      clear hbn hBn ho1
      go_wp2_with fail
      have hsz6 := hB.size
      refine (HK1.out _ _ _ _ (in1 _ _ _ rfl) (HT.out.below (hB.alloc hsz6 _))).mono ?_
      rintro e wm ⟨r2, rfl, A2, cc2, rfl, ho2, hbm⟩
      have hBm := ((Below.refl wn.heap.size wn).alloc (Nat.le_refl _) _).trans (hbm.mono (by simp))
      replace hB := hB.trans (hBm.mono hB.size)
      have hi1 := hi1.below hBm
      have hi2 : shK.In wm A2 2 [⟨5, ⟨#[55]⟩⟩, ⟨5, ⟨#[57]⟩⟩] := Sh.In.of_own ho2 rfl
      clear hbm hBm ho2
      go_wp2_with fail
      refine (lknots_any A1 3 cc1 _ _ hi1 (by decide)).mono ?_
      rintro e wp ⟨r3, rfl, A3, cc3, rfl, ho3, hbp⟩
      replace hB := hB.trans (hbp.mono hB.size)
      have hi2 := hi2.below hbp
      have hi3 : shK.In wp A3 3 [⟨200, ⟨#[48]⟩⟩, ⟨300, ⟨#[50, 53, 48]⟩⟩, ⟨400, ⟨#[48]⟩⟩] := Sh.In.of_own ho3 rfl
      clear hbp ho3 hi1
      go_wp2_with fail
      have hBq := (Below.refl wp.heap.size wp).alloc (Nat.le_refl _) (.cells #[.int .i64 200, .string ⟨#[48]⟩, .int .i64 300, .string ⟨#[50, 53, 48]⟩, .int .i64 400, .string ⟨#[48]⟩] 68)
      have hs3 := r3same_any A3 (some ⟨wp.heap.size, 0, none⟩) 3 3 cc3 3 _ _ _ (hi3.below hBq) (kin3 wp 68 _ rfl) (by decide) (by decide)
      rw [decide_eq_true rfl] at hs3
      refine hs3.mono ?_
      rintro e wq ⟨rfl, hbq⟩
      have hBq := hBq.trans (hbq.mono (by simp))
      replace hB := hB.trans (hBq.mono hB.size)
      have hi2 := hi2.below hBq
      clear hbq hBq hi3 hs3
      go_wp2_with fail
      refine (lknots_any A2 2 cc2 _ _ hi2 (by decide)).mono ?_
      rintro e wx ⟨r4, rfl, A4, cc4, rfl, ho4, hbx⟩
      replace hB := hB.trans (hbx.mono hB.size)
      have hi4 : shK.In wx A4 2 [⟨5, ⟨#[55]⟩⟩, ⟨5, ⟨#[57]⟩⟩] := Sh.In.of_own ho4 rfl
      clear hbx ho4 hi2
      go_wp2_with fail
      have hBy := (Below.refl wx.heap.size wx).alloc (Nat.le_refl _) (.cells #[.int .i64 5, .string ⟨#[55]⟩, .int .i64 5, .string ⟨#[57]⟩] 68)
      have hs4 := r3same_any A4 (some ⟨wx.heap.size, 0, none⟩) 2 2 cc4 2 _ _ _ (hi4.below hBy) (kin2 wx 68 _ rfl) (by decide) (by decide)
      rw [decide_eq_true rfl] at hs4
      refine hs4.mono ?_
      rintro e wy ⟨rfl, hby⟩
      have hBy := hBy.trans (hby.mono (by simp))
      replace hB := hB.trans (hBy.mono hB.size)
      clear hby hBy hi4 hs4
      go_wp2_with fail
      go_ret
      exact ⟨rfl, hB⟩
end Go.Proofs.YtjnhdimllllgaaaGreatDoor
