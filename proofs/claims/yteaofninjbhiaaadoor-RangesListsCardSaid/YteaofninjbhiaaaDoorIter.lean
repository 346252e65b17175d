/- The contract of the iterator all: it yields the channels of a set, in ascending order. -/
import Derived.RangeFuncNested
import Derived.RangeFuncBound
import Derived.RangeFuncCalls
import Derived.RangeFuncLeaves
import Derived.RangeFuncBox
import Derived.Shelf.Abstract
import Derived.Shelf.RegionOpen
import Derived.OwnWalkIn
import Derived.TacticsInMore
import Derived.LoopNIn
import Derived.LoopIn
import Derived.Test.YteaofninjbhiaaaDoorFormat2
namespace Go.Proofs.YteaofninjbhiaaaDoor
open Go.RowKit Go.Shelf
attribute [local go_sem] Oper.semAt_some

/-- what a round keeps: all that lay below n₀, and each block of type t -/
def KpR (n₀ : Nat) (t : TypeId) (W W' : World) : Prop := Below n₀ W W' ∧ ∀ (k : Nat) (c : Array Value), W.heap[k]? = some (Obj.cells c t (0, 0)) → W'.heap[k]? = some (Obj.cells c t (0, 0))
theorem KpR.refl (n₀ : Nat) (t : TypeId) (W : World) : KpR n₀ t W W := ⟨Below.refl _ _, fun _ _ h => h⟩
theorem KpR.t {n₀ : Nat} {t : TypeId} {A B C : World} (h : KpR n₀ t A B) (k : KpR n₀ t B C) : KpR n₀ t A C := ⟨h.1.trans k.1, fun i c hi => k.2 i c (h.2 i c hi)⟩
theorem KpR.b {n₀ : Nat} {t : TypeId} {w : World} (hn : n₀ ≤ w.heap.size) (W : World) (l : Nat) (o o' : Obj) (hl : w.heap.size ≤ l) (h : W.heap[l]? = some o) (hc : o.isCells = false) (hw : o.isWalk = false) : KpR n₀ t W (W.putObj l o') := by
  refine ⟨belowK_b hn W l o o' hl h hc hw, fun k c hk => ?_⟩
  have hne : k ≠ l := by
    rintro rfl
    rw [hk] at h
    injection h with h
    subst h
    simp [Obj.isCells] at hc
  exact (World.putObj_heap_other hne).trans hk
theorem KpR.grown {n₀ : Nat} {t : TypeId} {A B W : World} {row : Option Nat} (h : KpR n₀ t A B) (hg : B.grownBy W row) (hB : n₀ ≤ B.heap.size) (hr : ∀ k, row = some k → n₀ ≤ k ∧ ∀ c : Array Value, B.heap[k]? ≠ some (Obj.cells c t (0, 0))) : KpR n₀ t A W :=
  ⟨h.1.grown hg hB fun k e => (hr k e).1, fun k c hk => by
    have h1 := h.2 k c hk
    rw [hg.block k (Array.getElem?_eq_some_iff.1 h1).1 (fun e => (hr k e.symm).2 c h1)]; exact h1⟩

set_option maxRecDepth 100000 in
set_option maxHeartbeats 4000000 in
theorem all1_in (n : Nat) (hn : 1 ≤ n) (y0 Bs n₀ : Nat) (A : Option Addr) (c : Nat) (L : RL) (hlen : L.length ≤ 1000000) (hr : ∀ r ∈ L, 1 ≤ r.1 ∧ r.1 ≤ r.2 ∧ r.2 ≤ 999) (J Jx : List Int → World → Prop)
    (W : World) (hJa : AbidesFrom W.heap.size J)
    (hY : ∀ pre x W, J pre W → pre.length < (listed L).length → YieldAt Fence.wide (n - 1) Tryd.prog y0 #[.int .i64 x] W fun e W' =>
      (e = .returned (.bool true) ∧ J (pre ++ [x]) W' ∧ KpR n₀ 37 W W') ∨ (e = .returned (.bool false) ∧ Jx (pre ++ [x]) W'))
    (hn₀ : n₀ ≤ W.heap.size) (hBs : W.cell? ⟨Bs, 0, none⟩ = some (.slice A L.length c))
    (hcell : ∀ k (hk : k < L.length), ∃ b o, A = some ⟨b, o, none⟩ ∧ b < n₀ ∧ W.cell? ⟨b, o + k * 2, none⟩ = some (.int .i64 L[k].1) ∧ W.cell? ⟨b, o + k * 2 + 1, none⟩ = some (.int .i64 L[k].2)) (h0 : J [] W) :
    CallsIn Fence.wide n Tryd.prog 72 #[.func (.yield y0) #[] #[], .pointer (some ⟨Bs, 0, none⟩)] W fun e W' => (∃ v, e = .returned v) ∧
      ((∃ ys, ys = listed L ∧ J ys W') ∨ (∃ pre, pre <+: listed L ∧ Jx pre W')) := by
  have HR := Lib.hid hr
  have HC := Lib.hid hcell
  clear hr hcell
  refine callsIn_of_wp Tryd.func72 rfl trivial ?_ rfl
  simp only [Tryd.ntmps72, List.size_toArray, List.length_cons, List.length_nil, Nat.reduceAdd, Nat.reduceSub, Array.replicate_succ, Array.replicate_zero, List.push_toArray, List.append_toArray, List.nil_append, List.cons_append]
  gi_wp2
  gi_loopw [8] (fun i wr => ∃ k : Nat, k ≤ L.length ∧ i = .int .i64 k ∧ J (listed (L.take k)) wr ∧ Below n₀ W wr ∧ W.heap.size ≤ wr.heap.size) (fun i _ => L.length - (intOf i).toNat)
  case atStart => exact ⟨0, Nat.zero_le _, rfl, by simpa [listed] using h0, Below.refl _ _, Nat.le_refl _⟩
  case round =>
    obtain ⟨k, hk, rfl, hJ, hb, hsz⟩ := hrel
    by_cases hlt : k < L.length
    · obtain ⟨b, o, rfl, hbl, hc1, hc2⟩ := HC.out k hlt
      have hc1 := (hb.cell (p := ⟨b, o + k * 2, none⟩) hbl).trans hc1
      have hc2 := (hb.cell (p := ⟨b, o + k * 2 + 1, none⟩) hbl).trans hc2
      have hrk := HR.out L[k] (List.getElem_mem hlt)
      have ht := Lib.hid (listed_take_succ L k hlt)
      have hpre : Hid (listed (L.take (k + 1)) <+: listed L) := by
        refine ⟨listed (L.drop (k + 1)), ?_⟩
        unfold listed
        rw [← List.flatMap_append, List.take_append_drop]
      have hlenk : (listed (L.take (k + 1))).length ≤ (listed L).length := hpre.out.length_le
      rw [ht.out, List.length_append, span_length] at hlenk
      generalize listed (L.take k) = M at *
      generalize L[k].1 = x at *
      generalize L[k].2 = y at *
      obtain ⟨hx1, hxy, hy9⟩ := hrk
      obtain ⟨wo, rfl⟩ : ∃ wo : World, wo = wr := ⟨_, rfl⟩
      have hJ1 := hJa M wo (wo.alloc (.cells #[.int .i64 x, .int .i64 y] 37)) none hJ (World.grownBy_alloc _ _ _) (fun r e => by cases e)
      have hnew := heap_alloc_new wo (.cells #[.int .i64 x, .int .i64 y] 37)
      have hb1 : Below n₀ W (wo.alloc (.cells #[.int .i64 x, .int .i64 y] 37)) := hb.alloc (Nat.le_trans hn₀ hsz) _
      gi_wp2
      gi_loopw [5] (fun i wr => ∃ t : Nat, t ≤ (y + 1 - x).toNat ∧ i = .int .i64 (x + t) ∧ J (M ++ (span x y).take t) wr ∧ Below n₀ W wr ∧ wo.heap.size < wr.heap.size ∧ wr.heap[wo.heap.size]? = some (.cells #[.int .i64 x, .int .i64 y] 37 (0, 0))) (fun i _ => (y + 1 - intOf i).toNat)
      case atStart => exact ⟨0, Nat.zero_le _, by simp, by simpa using hJ1, hb1, by simp, hnew⟩
      case round =>
        clear hJ1 hnew hb1
        obtain ⟨t, ht2, rfl, hJ2, hb2, hsz2, hblk⟩ := hrel
        have hcy : wr.cell? ⟨wo.heap.size, 1, none⟩ = some (.int .i64 y) := cell_of_row wr _ 1 _ _ _ hblk
        by_cases hly : x + t ≤ y
        · have hs := Lib.hid (span_take_succ x y t (by omega))
          have hl2 : (M ++ (span x y).take t).length < (listed L).length := by
            rw [List.length_append, List.length_take, span_length]; omega
          obtain ⟨fn, tmps, assign, body, hy, hRd⟩ := hY _ (x + t) wr hJ2 hl2
          gi_wp2
          refine hRd.mono ?_
          rintro e W3 (⟨rfl, hJ3, hk3⟩ | ⟨rfl, hJx3⟩)
          · gi_wp2
            go_roundw
            case rel => exact ⟨t + 1, by omega, by go_num, by rw [hs.out, ← List.append_assoc]; exact hJ3, hb2.trans hk3.1, Nat.lt_of_lt_of_le hsz2 hk3.1.size, hk3.2 _ _ hblk⟩
            case measure => simp [intOf]; omega
          · gi_wp2
            refine bodyPost_ret (results_none rfl _ _ _) rfl ?_
            refine ⟨⟨_, rfl⟩, .inr ⟨_, ?_, hJx3⟩⟩
            rw [List.append_assoc, ← hs.out]
            refine List.IsPrefix.trans ?_ (ht.out ▸ hpre.out)
            exact (List.prefix_append_right_inj _).2 (List.take_prefix _ _)
        · obtain rfl : t = (y + 1 - x).toNat := by omega
          rw [← span_length, List.take_length, ← ht.out] at hJ2
          gi_wp2
          go_roundw
          case rel => exact ⟨k + 1, by omega, by go_num, hJ2, hb2, by omega⟩
          case measure => simp [intOf]; omega
    · obtain rfl : k = L.length := by omega
      rw [List.take_length] at hJ
      gi_wp2
      go_end0
      exact ⟨⟨_, rfl⟩, .inl ⟨_, rfl, hJ⟩⟩

set_option maxHeartbeats 1000000 in
theorem all_in (n : Nat) (A : Option Addr) (len c : Nat) (w : World) :
    CallsIn Fence.wide n Tryd.prog 56 #[.slice A len c] w fun e w' => e = .returned (.func (.func 72) #[] #[.pointer (some ⟨w.heap.size, 0, none⟩)]) ∧ w' = w.alloc (.cells #[.slice A len c] 22) := by
  refine callsIn_of_wp Tryd.func56 rfl trivial ?_ rfl
  simp only [Tryd.ntmps56, List.size_toArray, List.length_cons, List.length_nil, Nat.reduceAdd, Nat.reduceSub, Array.replicate_succ, Array.replicate_zero, List.push_toArray, List.append_toArray, List.nil_append, List.cons_append]
  gi_wp2
  go_ret
  exact ⟨rfl, rfl⟩

theorem all_stops (n : Nat) (hn : 1 ≤ n) (Bs n₀ : Nat) (A : Option Addr) (c : Nat) (L : RL) (hlen : L.length ≤ 1000000) (hr : ∀ r ∈ L, 1 ≤ r.1 ∧ r.1 ≤ r.2 ∧ r.2 ≤ 999) (w : World) (hB : Bs < w.heap.size) (hn₀ : n₀ ≤ w.heap.size)
    (hBs : w.cell? ⟨Bs, 0, none⟩ = some (.slice A L.length c))
    (hcell : ∀ k (hk : k < L.length), ∃ b o, A = some ⟨b, o, none⟩ ∧ b < n₀ ∧ w.cell? ⟨b, o + k * 2, none⟩ = some (.int .i64 L[k].1) ∧ w.cell? ⟨b, o + k * 2 + 1, none⟩ = some (.int .i64 L[k].2)) :
    SeqStopsK Fence.wide n Tryd.prog 72 #[.pointer (some ⟨Bs, 0, none⟩)] (fun x : Int => #[Value.int .i64 x]) (KpR n₀ 37) (fun ys => ys = listed L) (fun pre => pre <+: listed L) (listed L).length w := fun l J Jx W hW hJ _ hY h0 =>
  all1_in n hn l Bs n₀ A c L hlen hr J Jx W hJ hY (Nat.le_trans hn₀ hW.size) ((hW.cell (p := ⟨Bs, 0, none⟩) hB).trans hBs) (fun k hk => by
    obtain ⟨b, o, e, hb, h1, h2⟩ := hcell k hk
    exact ⟨b, o, e, hb, (hW.cell (p := ⟨b, _, none⟩) (Nat.lt_of_lt_of_le hb hn₀)).trans h1, (hW.cell (p := ⟨b, _, none⟩) (Nat.lt_of_lt_of_le hb hn₀)).trans h2⟩) h0
end Go.Proofs.YteaofninjbhiaaaDoor
