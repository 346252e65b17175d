/- Contracts of List and Count. -/
import Derived.Test.YteaofninjbhiaaaDoorIter
namespace Go.Proofs.YteaofninjbhiaaaDoor
open Go.RowKit Go.Shelf
attribute [local go_sem] Oper.semAt_some

def listL (l : RL) : List Int × Int := if chk l = 0 then (listed l, 0) else ([], chk l)

theorem KpR.set {n₀ : Nat} {t : TypeId} {A W : World} (h : KpR n₀ t A W) {Bx : Nat} {tb : TypeId} {v : Value} (hv : Boxed W Bx tb v) (hne : tb ≠ t) (hx : n₀ ≤ Bx) (u : Value) : KpR n₀ t A (W.setCell ⟨Bx, 0, none⟩ u) :=
  ⟨h.1.setCell (p := ⟨Bx, 0, none⟩) hx u, fun k c hk => by
    have h1 := h.2 k c hk
    rw [Below.heap_setCell _ _ _ _ (by
      intro e
      have e : k = Bx := e
      subst e
      unfold Boxed at hv
      rw [hv] at h1
      injection h1 with h1
      injection h1 with _ h2
      exact hne h2)]
    exact h1⟩
theorem own_not {W : World} {n₀ : Nat} {e t : TypeId} {z : Nat} {v : Value} {k : Nat} {xs : List Value} (h : W.ownsRow n₀ e z v k xs) (hne : e ≠ t) : ∀ j, v.ownBlock = some j → n₀ ≤ j ∧ ∀ c : Array Value, W.heap[j]? ≠ some (Obj.cells c t (0, 0)) := by
  intro j hj
  rcases h.2 with ⟨rfl, _⟩ | ⟨g, cap, cur, rfl, hg, hgb, _⟩
  · simp [Value.ownBlock] at hj
  · obtain rfl : g = j := by simpa [Value.ownBlock] using hj
    refine ⟨hg, fun c hc => ?_⟩
    rw [hgb] at hc
    injection hc with hc
    injection hc with _ h2
    exact hne h2
theorem KpR.alloc {n₀ : Nat} {t : TypeId} {A W : World} (h : KpR n₀ t A W) (hB : n₀ ≤ W.heap.size) (o : Obj) : KpR n₀ t A (W.alloc o) := h.grown (World.grownBy_alloc W o none) hB (fun k e => by cases e)

set_option maxRecDepth 100000 in
set_option maxHeartbeats 4000000 in
theorem list_any (A : Option Addr) (n c : Nat) (l : RL) (w : World) (hl : Rs w A n l) (hn : n ≤ 100000) :
    Calls Tryd.prog 29 #[.slice A n c] w fun e w' => ∃ r, e = .returned (.tuple #[r, .int .i64 (listL l).2]) ∧ OutI 3 (listL l).1 w r w' := by
  obtain ⟨rfl, _⟩ := id hl
  by_cases h0 : chk l = 0
  · have hfin := Lib.hid (show listL l = (listed l, 0) from if_pos h0)
    have hlen := listed_length (chk_ok h0)
    have H0 := Lib.hid h0
    clear h0
    refine (callsIn_wide (n := 5)).1 ?_
    refine callsIn_of_wp_marks Tryd.func29 rfl trivial ?_ rfl
    simp only [Tryd.ntmps29, List.size_toArray, List.length_cons, List.length_nil, Nat.reduceAdd, Nat.reduceSub, Array.replicate_succ, Array.replicate_zero, List.push_toArray, List.append_toArray, List.nil_append, List.cons_append]
    gi_wp2_with (first | (refine ⟨trivial, ?_⟩; gi_at_call 14; refine (callsIn_wide.2 (check_any _ _ c l _ hl (by omega))).mono ?_; rw [H0.out]; rintro e w1 ⟨rfl, hb1⟩; have hz1 := hb1.size) | (refine ⟨trivial, ?_⟩; gi_at_call 56; refine (all_in _ _ _ _ _).mono ?_; rintro e w' ⟨rfl, rfl⟩))
    have bO := Boxed.new w1 54 (.slice none 0 0)
    have bN := Boxed.new (w1.alloc (.cells #[.slice none 0 0] 54)) 22 (.slice A l.length c)
    rw [World.size_alloc] at bN
    have hB0 : Below w1.heap.size w1 ((w1.alloc (.cells #[.slice none 0 0] 54)).alloc (.cells #[.slice A l.length c] 22)) := ((Below.refl _ w1).alloc (Nat.le_refl _) _).alloc (by simp) _
    refine wpIn_rangeFunc_ownG rfl (by omega) (gf := 72) (lb := #[.pointer (some ⟨w1.heap.size + 1, 0, none⟩)]) rfl trivial (enters_of Tryd.func72 (by kernel_rfl) rfl)
      (all_stops 4 (by omega) (w1.heap.size + 1) w1.heap.size A c l (by omega) (chk_ok H0.out) _ (by simp) (by simp; omega) bN.cell (fun k hk => by
        obtain ⟨b, o, e, hb, h1, h2⟩ := (hl.below hb1).at1 hk
        exact ⟨b, o, e, hb, (hB0.cell (p := ⟨b, _, none⟩) hb).trans h1, (hB0.cell (p := ⟨b, _, none⟩) hb).trans h2⟩)) KpR.t (KpR.b (by simp; omega)) (Below.refl _ _) (fun _ => rfl)
      (fun pre W => (∃ v, Boxed W w1.heap.size 54 v ∧ W.ownsRow w1.heap.size 3 1 v pre.length (iv pre) ∧ True) ∧ Below w1.heap.size w1 W)
      (fun _ _ _ => False)
      (OwnFrom.and (Own.from (holdsRow_own w1.heap.size w1.heap.size 54 3 1 (fun pre : List Int => pre.length) (fun pre => iv pre) (fun _ _ => True)) _) (ownFrom_below (Nat.le_refl _) (by simp; omega)))
      (fun _ _ _ _ _ hs _ _ => hs)
      ⟨⟨_, bO.alloc _, World.ownsRow_nil _ _ _ _, trivial⟩, hB0⟩
      (fun x => { tmps := #[.slice A l.length c, undef, .slice none 0 0, .int .i64 0, .int .i64 0, .pointer (some ⟨w1.heap.size, 0, none⟩), .int .i64 x, .slice A l.length c, .int .i64 0, .int .i64 0, .bool false, undef, .slice A l.length c, .func (.func 72) #[] #[.pointer (some ⟨w1.heap.size + 1, 0, none⟩)], .int .i64 x, undef, undef, undef, undef, undef], defers := [] }) ?assign ?body ?done ?stop
    case assign =>
      intro l x W K hK
      gi_wp2
      exact hK
    case body =>
      rintro y0 pre x W ⟨⟨v, hv, hrow, _⟩, hB⟩ hlt
      have hc := hv.cell
      obtain ⟨i0, hi, hz0, hzz1, hz2⟩ := info_parts infoI
      gi_wp2_with (gi_at_builtin; refine wpListIn_append_own _ rfl _ _ 54 rfl w1.heap.size 3 i0 (.int .i64 0) 1 8 Tryd.underlying54 hi hz0 hzz1 hz2 rfl (by decide) _ _ _ rfl (hrow.alloc _) ⟨W.heap.size, 0, none⟩ 1 1 [.int .i64 x] rfl rfl (cell_one_new _ _ _) (by simp [Value.oneCell']) (by unfold maxLen; omega) (by omega) (by have := hB.size; simp; omega) ?_; intro v' w2 hown' hgrow _; obtain ⟨g', cap', rfl⟩ := ownsRow_succ hown'; obtain ⟨hv1, hv2, hr2, hk2, hb2⟩ := hv.appended (by decide) hrow hB.size (Nat.le_refl _) hown' hgrow; have hc1 := hv1.cell; have hf1 := hv1.frozen)
      exact ⟨hk2.from _, (((KpR.refl _ _ W).alloc hB.size _).grown hgrow (by have := hB.size; simp; omega) (own_not (hrow.alloc _) (by decide))).set hv1 (by decide) (Nat.le_refl _) _, ⟨_, hv2, by rw [iv_append, List.length_append]; exact hr2, trivial⟩, hB.trans hb2⟩
    case done =>
      rintro D ys W hD rfl ⟨⟨v, hv, hrow, _⟩, hB⟩ hK
      have hc := hv.cell
      gi_wp2
      refine ⟨by simp, .inl ⟨_, _, rfl, run_takeDeferred hK, ?_⟩⟩
      obtain ⟨A', c', rfl⟩ := own_form hrow
      refine ⟨_, results_tmp2 rfl _ _ _, ?_⟩
      rw [hfin.out]
      have hBB := hB.trans (belowK_b (w := w1) (Nat.le_refl _) W D _ (.deferred none) (by simp at hD; omega) hK rfl rfl)
      exact ⟨_, rfl, A', c', rfl, own_mono (ownsRow_putObj hrow _ hK rfl) hz1, hb1.trans (hBB.mono hz1)⟩
    case stop =>
      rintro D c pre W _ _ h _
      exact h.elim
  · have hfin := Lib.hid (show listL l = ([], chk l) from if_neg h0)
    generalize hx : chk l = x at *
    have Hx := Lib.hid hx
    clear hx
    have h0' : (x != 0) = true := by simpa using h0
    clear h0
    go_enter Tryd.func29, Tryd.ntmps29
    go_wp2_with fail
    refine (check_any _ _ c l _ hl (by omega)).mono ?_
    rw [Hx.out]
    rintro e w1 ⟨rfl, hb1⟩
    go_wp2_with fail
    go_ret2
    rw [hfin.out]
    exact ⟨_, rfl, OutI.nil hb1⟩
end Go.Proofs.YteaofninjbhiaaaDoor
