/- Lemmas and contracts of functions, joined for the claim: QCut, LkBase. -/
import Derived.Test.YtbhkfemebionnaaGreatDoorMPlain
import Derived.Test.YtbhkfemebionnaaGreatDoorMWord
import Derived.Test.YtbhkfemebionnaaGreatDoorMShelf
import Derived.WalkKit
import Derived.RegionTactic
import Derived.ChangeAlike
import Derived.Deep.WholeRow
import Derived.Deep.RegionHeld3
import Derived.Deep.AppendLies
import Derived.Sort.OwnSorted
import Derived.Shelf.GgSortFunc.RowK
import Derived.Shelf.SlSortCmp.InsertionK
import Derived.Shelf.RegionOpenPlain
import Derived.Laws.Cover1
import Derived.Laws.ResultCell
import Derived.Laws.EntriesVeiled
import Derived.StillTailTactics
namespace Go.Proofs.YtbhkfemebionnaaGreatDoor
open Go.RowKit

theorem take_bytes0 (s : ByteArray) (k : Nat) : (s.extract 0 k).data.toList = s.data.toList.take k := by
  rw [ByteArray.data_extract, Array.toList_extract, List.extract_eq_take_drop]; simp
theorem drop_bytes0 (s : ByteArray) (k : Nat) : (s.extract k s.size).data.toList = s.data.toList.drop k := by
  rw [ByteArray.data_extract, Array.toList_extract, List.extract_eq_take_drop]
  apply List.take_of_length_le
  simp
set_option maxHeartbeats 1000000 in
theorem lcutd_any (s : ByteArray) (w : World) (hs : s.size ≤ 9223372036854775807) :
    Calls Tryz.prog 96 #[.string s, .string ⟨#[46]⟩] w fun e w' => e = .returned (.tuple #[.string ⟨(headB 46 s.data.toList).toArray⟩, .string ⟨(tailB 46 s.data.toList).toArray⟩, .bool (hasB 46 s.data.toList)]) ∧ ∃ n, w' = w.drewN n := by
  have HI := Lib.hid (fun w => Tryz.stringslite_Index_one s 46 w)
  obtain ⟨i1, i2⟩ := byte_idx 46 s.data.toList
  cases hb : hasB 46 s.data.toList
  · obtain ⟨h1, h2⟩ := head_none hb
    rw [i2 hb] at HI
    have HV := Lib.hid (show s = ⟨(headB 46 s.data.toList).toArray⟩ from bs_of h1.symm)
    rw [h2]
    clear i1 i2 h1 h2 hb
    go_enter Tryz.func96, Tryz.ntmps96
    go_wp2_with (go_at_call 121; refine (HI.out _).mono ?_; rintro e w1 ⟨rfl, rfl⟩)
    go_ret3
    exact ⟨by rw [← HV.out]; rfl, 0, rfl⟩
  · obtain ⟨h1, h2, h3⟩ := head_some hb
    rw [i1 hb] at HI
    have HV := Lib.hid (show s.extract 0 (headB 46 s.data.toList).length = ⟨(headB 46 s.data.toList).toArray⟩ from bs_of (by rw [take_bytes0, ← h1]))
    have HW := Lib.hid (show s.extract ((headB 46 s.data.toList).length + 1) s.size = ⟨(tailB 46 s.data.toList).toArray⟩ from bs_of (by rw [drop_bytes0, ← h2]))
    rw [bytes_len] at h3
    generalize (headB 46 s.data.toList).length = k at *
    have c1 : (0 : Int) ≤ ↑k := by omega
    have c2 : (↑k : Int) ≤ ↑s.size := by omega
    have c3 : (0 : Int) ≤ ↑k + 1 := by omega
    have c4 : (↑k + 1 : Int) ≤ ↑s.size := by omega
    clear i1 i2 h1 h2 hb
    go_enter Tryz.func96, Tryz.ntmps96
    go_wp2_with (go_at_call 121; refine (HI.out _).mono ?_; rintro e w1 ⟨rfl, rfl⟩)
    go_region
    go_wp2
    go_ret3
    exact ⟨by rw [← HV.out, ← HW.out]; rfl, 1, rfl⟩
set_option maxHeartbeats 1000000 in
theorem scutd_any (s : ByteArray) (w : World) (hs : s.size ≤ 9223372036854775807) :
    Calls Tryz.prog 71 #[.string s, .string ⟨#[46]⟩] w fun e w' => e = .returned (.tuple #[.string ⟨(headB 46 s.data.toList).toArray⟩, .string ⟨(tailB 46 s.data.toList).toArray⟩, .bool (hasB 46 s.data.toList)]) ∧ ∃ n, w' = w.drewN n := by
  have HI := Lib.hid (fun w => lcutd_any s w hs)
  go_enter Tryz.func71, Tryz.ntmps71
  go_wp2_with (go_at_call 96; refine (HI.out _).mono ?_; rintro e w1 ⟨rfl, n, rfl⟩)
  go_ret3
  exact ⟨rfl, n, rfl⟩
end Go.Proofs.YtbhkfemebionnaaGreatDoor

namespace Go.Proofs.YtbhkfemebionnaaGreatDoor
open Go.RowKit

def idxOf {α : Type} (p : α → Bool) : List α → Int
  | [] => -1
  | a :: l => if p a then 0 else if idxOf p l < 0 then -1 else idxOf p l + 1
theorem idxOf_none {α : Type} {p : α → Bool} : ∀ {l : List α}, (∀ i (h : i < l.length), p l[i] = false) → idxOf p l = -1
  | [], _ => rfl
  | a :: l, h => by
    have h0 : p a = false := h 0 (by simp)
    rw [idxOf, h0, if_neg (by simp), idxOf_none (l := l) fun i hi => h (i + 1) (by simpa using hi)]
    rfl
theorem idxOf_some {α : Type} {p : α → Bool} : ∀ {l : List α} {k : Nat} (hk : k < l.length), (∀ i (h : i < k), p (l[i]'(by omega)) = false) → p l[k] = true → idxOf p l = k
  | a :: l, 0, _, _, h => by rw [idxOf, if_pos (by simpa using h)]; rfl
  | a :: l, k + 1, hk, hb, h => by
    have h0 : p a = false := hb 0 (by omega)
    have ih := idxOf_some (l := l) (k := k) (by simpa using hk) (fun i hi => hb (i + 1) (by omega)) (by simpa using h)
    rw [idxOf, h0, if_neg (by simp), ih, if_neg (by omega)]
    omega
theorem idxOf_lt {α : Type} {p : α → Bool} : ∀ (l : List α), idxOf p l < l.length
  | [] => by simp [idxOf]
  | a :: l => by
    have := idxOf_lt (p := p) l
    rw [idxOf]
    split
    · simp
    · split
      · simp
        omega
      · simp
        omega
theorem idxOf_ge {α : Type} {p : α → Bool} : ∀ (l : List α), -1 ≤ idxOf p l
  | [] => by simp [idxOf]
  | a :: l => by
    have := idxOf_ge (p := p) l
    rw [idxOf]
    split
    · omega
    · split <;> omega
theorem bytes_bq (a b : ByteArray) : (a.toList == b.toList) = decide (a = b) := by
  rw [ByteArray.toList_eq, ByteArray.toList_eq, Bool.eq_iff_iff]
  simp only [beq_iff_eq, decide_eq_true_eq]
  exact ⟨fun h => ByteArray.ext (Array.ext' h), fun h => by rw [h]⟩
def Cells (w : World) (P : Nat) (vs : List Value) : Prop := P < w.heap.size ∧ ∀ j u, vs[j]? = some u → w.cell? ⟨P, j, none⟩ = some u ∧ w.frozen? ⟨P, j, none⟩ = false
theorem Cells.below {w w' : World} {P B : Nat} {vs : List Value} (h : Cells w P vs) (hb : Below B w w') (hP : P < B) : Cells w' P vs := by
  exact ⟨Nat.lt_of_lt_of_le h.1 hb.size, fun j u hu => ⟨(hb.cell (p := ⟨P, j, none⟩) hP).trans (h.2 j u hu).1, (hb.frozen (p := ⟨P, j, none⟩) hP).trans (h.2 j u hu).2⟩⟩
theorem Cells.fresh (w : World) (vs : List Value) (t : TypeId) : Cells (w.alloc (.cells vs.toArray t)) w.heap.size vs :=
  ⟨by simp, fun j u hu => ⟨by rw [World.cell?_alloc_new]; simpa using hu, World.frozen?_alloc_new ..⟩⟩
theorem Cells.at_ {w : World} {P : Nat} {vs : List Value} (h : Cells w P vs) {j : Nat} {u : Value} (hu : vs[j]? = some u) : w.cell? ⟨P, j, none⟩ = some u := (h.2 j u hu).1
theorem Cells.fr {w : World} {P : Nat} {vs : List Value} (h : Cells w P vs) {j : Nat} {u : Value} (hu : vs[j]? = some u) : w.frozen? ⟨P, j, none⟩ = false := (h.2 j u hu).2

def RowAt (w : World) (B : Nat) (c : Array Value) (t : TypeId) : Prop := w.heap[B]? = some (.cells c t (0, 0))
theorem RowAt.lt {w : World} {B : Nat} {c : Array Value} {t : TypeId} (h : RowAt w B c t) : B < w.heap.size := (Array.getElem?_eq_some_iff.1 h).1
theorem RowAt.fresh (w : World) (c : Array Value) (t : TypeId) : RowAt (w.alloc (.cells c t)) w.heap.size c t := heap_alloc_last w _
theorem RowAt.below {w w' : World} {B Bd : Nat} {c : Array Value} {t : TypeId} (h : RowAt w B c t) (hb : Below Bd w w') (hB : B < Bd) : RowAt w' B c t := (hb.block B hB).trans h
theorem RowAt.cell {w : World} {B : Nat} {c : Array Value} {t : TypeId} (h : RowAt w B c t) {j : Nat} {u : Value} (hu : c[j]? = some u) : w.cell? ⟨B, j, none⟩ = some u :=
  (cell_of_row _ _ j c t (0, 0) h).trans hu
theorem RowAt.fr {w : World} {B : Nat} {c : Array Value} {t : TypeId} (h : RowAt w B c t) (j : Nat) : w.frozen? ⟨B, j, none⟩ = false := by
  unfold World.frozen?
  rw [show w.heap[(⟨B, j, none⟩ : Addr).block]? = _ from h]
  simp
theorem RowAt.set {w : World} {B : Nat} {c : Array Value} {t : TypeId} (h : RowAt w B c t) (j : Nat) (v : Value) : RowAt (w.setCell ⟨B, j, none⟩ v) B (c.setIfInBounds j v) t := by
  unfold RowAt World.setCell at *
  simp only [Array.getElem?_modify, if_true, h]
  rfl
theorem RowAt.far {w : World} {B B' : Nat} {c : Array Value} {t : TypeId} (h : RowAt w B c t) (j : Nat) (v : Value) (hne : B' ≠ B) : RowAt (w.setCell ⟨B', j, none⟩ v) B c t := by
  unfold RowAt World.setCell at *
  simp only [Array.getElem?_modify]
  rw [if_neg (by simpa using hne)]
  exact h
theorem Cells.far {w : World} {B B' : Nat} {vs : List Value} (h : Cells w B vs) (j : Nat) (v : Value) (hne : B' ≠ B) : Cells (w.setCell ⟨B', j, none⟩ v) B vs := by
  refine ⟨by rw [World.size_setCell]; exact h.1, fun i u hu => ⟨?_, by rw [World.frozen?_setCell]; exact (h.2 i u hu).2⟩⟩
  exact (World.cell?_setCell_other w ⟨B', j, none⟩ ⟨B, i, none⟩ v (fun e => by injection e with e; exact hne e)).trans (h.2 i u hu).1
theorem Cells.set {w : World} {P : Nat} {vs : List Value} (h : Cells w P vs) (j : Nat) (v : Value) (hj : j < vs.length) : Cells (w.setCell ⟨P, j, none⟩ v) P (vs.set j v) := by
  refine ⟨by rw [World.size_setCell]; exact h.1, fun i u hu => ⟨?_, by
    rw [World.frozen?_setCell]
    have hi : i < vs.length := by have := (List.getElem?_eq_some_iff.1 hu).1; rwa [List.length_set] at this
    exact (h.2 i vs[i] (List.getElem?_eq_getElem hi)).2⟩⟩
  by_cases e : j = i
  · subst e
    rw [List.getElem?_set_self hj] at hu
    injection hu with hu
    subst hu
    exact World.cell?_setCell_same' _ _ _ (by rw [(h.2 j vs[j] (List.getElem?_eq_getElem hj)).1]; rfl)
  · rw [List.getElem?_set_ne e] at hu
    exact (World.cell?_setCell_other w ⟨P, j, none⟩ ⟨P, i, none⟩ v (fun e2 => by injection e2 with _ e2; exact e e2)).trans (h.2 i u hu).1
theorem res_cell1 {fn : Func} {p : Tmp} {ty : TypeId} (h : fn.results = #[.cell p ty]) (tmps : Array Value) (P : Program) (w : World) :
    (results fn tmps).run P w = ((asAddr (tmps.getD p undef)).run P w).andThen fun a w₁ => (loadVar ty a).run P w₁ := by
  simp only [results, h]
  simp [Sem.run_bind, Result.andThen]
theorem box1 (vs : Array Value) (t : TypeId) (w W : World) (hW : W = w.alloc (.cells vs t)) :
    Below w.heap.size w W ∧ ∀ w', Below W.heap.size W w' → ∀ j u, vs[j]? = some u → w'.cell? ⟨w.heap.size, j, none⟩ = some u := by
  have hb : Below w.heap.size w W := by rw [hW]; exact (Below.refl _ w).alloc (Nat.le_refl _) _
  have hs : w.heap.size < W.heap.size := by rw [hW]; simp
  refine ⟨hb, fun w' h j u hu => ?_⟩
  refine (h.cell (p := ⟨w.heap.size, j, none⟩) hs).trans ?_
  rw [hW, World.cell?_alloc_new]; exact hu
theorem box2 (vs : Array Value) (t : TypeId) (us : Array Value) (s : TypeId) (w W : World) (hW : W = (w.alloc (.cells vs t)).alloc (.cells us s)) :
    Below w.heap.size w W ∧ ∀ w', Below W.heap.size W w' → (∀ j u, vs[j]? = some u → w'.cell? ⟨w.heap.size, j, none⟩ = some u) ∧ ∀ j u, us[j]? = some u → w'.cell? ⟨w.heap.size + 1, j, none⟩ = some u := by
  obtain ⟨W1, hW1⟩ : ∃ W1, W1 = w.alloc (.cells vs t) := ⟨_, rfl⟩
  rw [← hW1] at hW
  obtain ⟨b1, k1⟩ := box1 vs t w W1 hW1
  obtain ⟨b2, k2⟩ := box1 us s W1 W hW
  have hs : W1.heap.size = w.heap.size + 1 := by rw [hW1]; simp
  rw [hs] at k2
  exact ⟨b1.trans (b2.mono b1.size), fun w' h => ⟨k1 w' (b2.trans (h.mono b2.size)), k2 w' h⟩⟩
theorem box3 (vs : Array Value) (t : TypeId) (us : Array Value) (s : TypeId) (xs : Array Value) (r : TypeId) (w W : World) (hW : W = ((w.alloc (.cells vs t)).alloc (.cells us s)).alloc (.cells xs r)) :
    Below w.heap.size w W ∧ ∀ w', Below W.heap.size W w' → (∀ j u, vs[j]? = some u → w'.cell? ⟨w.heap.size, j, none⟩ = some u) ∧ (∀ j u, us[j]? = some u → w'.cell? ⟨w.heap.size + 1, j, none⟩ = some u) ∧ ∀ j u, xs[j]? = some u → w'.cell? ⟨w.heap.size + 1 + 1, j, none⟩ = some u := by
  obtain ⟨W1, hW1⟩ : ∃ W1, W1 = (w.alloc (.cells vs t)).alloc (.cells us s) := ⟨_, rfl⟩
  rw [← hW1] at hW
  obtain ⟨b1, k1⟩ := box2 vs t us s w W1 hW1
  obtain ⟨b2, k2⟩ := box1 xs r W1 W hW
  have hs : W1.heap.size = w.heap.size + 1 + 1 := by rw [hW1]; simp
  rw [hs] at k2
  exact ⟨b1.trans (b2.mono b1.size), fun w' h => ⟨(k1 w' (b2.trans (h.mono b2.size))).1, (k1 w' (b2.trans (h.mono b2.size))).2, k2 w' h⟩⟩
theorem rev_ind {α : Type} {m : List α → Prop} (h0 : m []) (h1 : ∀ l x, m l → m (l ++ [x])) (l : List α) : m l := by
  have : ∀ l : List α, m l.reverse := fun l => by
    induction l with
    | nil => exact h0
    | cons x l ih => rw [List.reverse_cons]; exact h1 _ _ ih
  have h := this l.reverse
  rwa [List.reverse_reverse] at h
theorem own_block2 {w : World} {base : Nat} {e : TypeId} {z : Nat} {v : Value} {n : Nat} {xs : List Value} (h : w.ownsRow base e z v n xs) {b : Nat} (hb : v.ownBlock = some b) : base ≤ b ∧ b < w.heap.size ∧ ∃ c, v = .slice (some ⟨b, 0, none⟩) n c := by
  rcases h.2 with ⟨rfl, rfl⟩ | ⟨g, cap, cur, rfl, hg, hc, _⟩
  · cases hb
  · injection hb with hb
    subst hb
    exact ⟨hg, (Array.getElem?_eq_some_iff.1 hc).1, cap, rfl⟩

theorem own_weak {w : World} {base base' : Nat} {e : TypeId} {size : Nat} {v : Value} {n : Nat} {xs : List Value} (h : w.ownsRow base e size v n xs) (hb : base' ≤ base) : w.ownsRow base' e size v n xs :=
  ⟨h.1, h.2.imp id fun ⟨g, cap, cur, hv, hg, r⟩ => ⟨g, cap, cur, hv, Nat.le_trans hb hg, r⟩⟩

theorem step_push {P : Program} {w : World} {ops : Array Oper} {o : Oper} {a : Act} {K : Act → World → Prop} {Q : Exit → Act → World → Prop} {E : Prop} (hgd : o.guard = none) (s x : Operand) (t : TypeId)
    (ho : o.op = .call { callee := .builtin .append, args := #[s, x], argTypes := #[t, t] })
    (base : Nat) (e : TypeId) (z : Value) (size bytes : Nat) (ht : P.underlying t = some (.slice e)) (hinfo : (P.info? e).map (fun i => (i.zero, i.size, i.bytes)) = some (some z, size, bytes)) (hzs : z.cells.size = size) (hsz : 0 < size)
    (v : Value) (n : Nat) (xs : List Value) (hs : a.eval s = v) (hown : w.ownsRow base e size v n xs)
    (cs : List Value) (t2 : TypeId) (b2 c : Nat) (hx : a.eval x = .slice (some ⟨b2, 0, none⟩) 1 c) (hb2 : b2 = w.heap.size) (hl : cs.length = size) (h1 : ∀ u ∈ cs, u.oneCell' = true)
    (h63 : n + 1 ≤ maxLen) (hbytes : (n + 1) * bytes ≤ 140737488355328) (hbase : base ≤ w.heap.size)
    (h : ∀ g cap w', w'.ownsRow base e size (.slice (some ⟨g, 0, none⟩) (n + 1) cap) (n + 1) (xs ++ cs) → w.grownBy w' v.ownBlock → K (a.put o.dst (.slice (some ⟨g, 0, none⟩) (n + 1) cap)) w') :
    if Region.wanted o (yielded ops a.tmps) = true then Oper.wp P o a (w.alloc (.cells cs.toArray t2)) K Q else E := by
  obtain ⟨i, hi, hz, hsize, hby⟩ := info_parts hinfo
  subst hb2
  refine step_append_lies (w := w.alloc (.cells cs.toArray t2)) hgd s x t ho base e i z size bytes ht hi hz hsize hby hzs hsz v n xs hs (hown.alloc _) ⟨w.heap.size, 0, none⟩ 1 c cs hx (by omega) (cells_new w cs t2) h1 (by omega) h63 hbytes (by simp; omega) _ rfl ?_
  intro g cap w' hown' hg _ _
  exact h g cap w' hown' ((World.grownBy_alloc w _ _).trans hg)
theorem In_of_cells {α : Type} {S : Sh α} {w : World} {B : Nat} {l : List α} (h : Cells w B (S.vs l)) : S.In w (some ⟨B, 0, none⟩) l.length l :=
  ⟨rfl, S.vs_length l, fun _ => ⟨B, 0, rfl, h.1, fun j u hu => by rw [Nat.zero_add]; exact h.at_ hu⟩⟩
theorem cells_ownG {w : World} {base : Nat} {e : TypeId} {z g n c : Nat} {xs : List Value} (h : w.ownsRow base e z (.slice (some ⟨g, 0, none⟩) n c) n xs) : Cells w g xs :=
  ⟨(own_block2 h (b := g) rfl).2.1, fun j u hu => ⟨(h.cellAt j (by have := (List.getElem?_eq_some_iff.1 hu).1; have := h.1; omega)).trans hu, h.frozenAt j⟩⟩
section
open Go.Sort
theorem flat_list {α : Type} [Inhabited α] {enc : α → List Value} {k : Nat} (hk : ∀ x, (enc x).length = k) : ∀ (l : List α) (j : Nat), j < l.length * k → (l.flatMap enc)[j]? = some ((enc l[j / k]!)[j % k]!)
  | [], j, h => by simp at h
  | a :: l, j, h => by
    have hk0 : 0 < k := by
      rcases Nat.eq_zero_or_pos k with e | e
      · subst e; simp at h
      · exact e
    rw [List.flatMap_cons]
    by_cases hj : j < k
    · rw [List.getElem?_append_left (by rw [hk]; exact hj), Nat.div_eq_of_lt hj, Nat.mod_eq_of_lt hj]
      have hl : j < (enc a).length := by rw [hk]; exact hj
      rw [List.getElem?_eq_getElem hl]
      simp [hl]
    · have e1 : j / k = (j - k) / k + 1 := by rw [Nat.div_eq_sub_div hk0 (by omega)]
      have e2 : j % k = (j - k) % k := Nat.mod_eq_sub_mod (by omega)
      have e3 : l.length * k + k = (a :: l).length * k := by rw [List.length_cons, Nat.add_mul, Nat.one_mul]
      rw [List.getElem?_append_right (by rw [hk]; omega), hk, flat_list hk l (j - k) (by omega), e1, e2]
      simp
theorem holds_cells {α : Type} [Inhabited α] {enc : α → List Value} {k : Nat} (hk : ∀ x, (enc x).length = k) {w : World} {g : Nat} {l : List α} (h : Cells w g (l.flatMap enc)) : HoldsK enc k w g 0 l.toArray := by
  intro j hj
  rw [size_flatK] at hj
  have hj' : j < l.length * k := by simpa using hj
  obtain ⟨h1, h2⟩ := h.2 j _ (flat_list hk l j hj')
  rw [Nat.zero_add, get_flatK _ _ _ _ hj]
  refine ⟨?_, h2⟩
  rw [h1]
  simp
theorem cells_holds {α : Type} [Inhabited α] {enc : α → List Value} {k : Nat} (hk : ∀ x, (enc x).length = k) {w : World} {g : Nat} {d : Array α} (h : HoldsK enc k w g 0 d) (hg : g < w.heap.size) : Cells w g (d.toList.flatMap enc) := by
  refine ⟨hg, fun j u hu => ?_⟩
  have hlen : ∀ l : List α, (l.flatMap enc).length = l.length * k := by
    intro l
    induction l with
    | nil => simp
    | cons a l ih => rw [List.flatMap_cons, List.length_append, ih, hk, List.length_cons, Nat.add_mul, Nat.one_mul, Nat.add_comm]
  have hj : j < d.size * k := by
    have := (List.getElem?_eq_some_iff.1 hu).1
    rw [hlen] at this
    simpa using this
  rw [flat_list hk d.toList j (by simpa using hj)] at hu
  injection hu with hu
  obtain ⟨h1, h2⟩ := h j (by rw [size_flatK]; exact hj)
  rw [Nat.zero_add, get_flatK _ _ _ _ hj] at h1
  rw [Nat.zero_add] at h2
  have hk0 : 0 < k := by
    rcases Nat.eq_zero_or_pos k with e | e
    · subst e; simp at hj
    · exact e
  have hq : j / k < d.size := (Nat.div_lt_iff_lt_mul hk0).2 hj
  have hdl : d.toList[j / k]! = d[j / k]! := by rw [getElem!_pos d (j / k) hq, getElem!_pos d.toList (j / k) (by simpa using hq)]; simp
  rw [hdl] at hu
  exact ⟨h1.trans (congrArg some hu), h2⟩
theorem grownBy_sortK {α : Type} [Inhabited α] {enc : α → List Value} {k : Nat} {w : World} {g n : Nat} {os : Array Obj} (d : Array α) : w.grownBy (sortWorldK enc k w g 0 n d os) (some g) := by
  unfold sortWorldK
  refine ⟨rfl, rfl, rfl, by simp [putRowK], fun k hk hne => ?_⟩
  rw [heap_grow_old _ _ (by simpa [putRowK] using hk)]
  have : g ≠ k := fun e => hne (by rw [e])
  simp [putRowK, putRow, mapBlock, Sort.ahead, Array.getElem?_modify, this]
theorem holds_sortK {α : Type} [Inhabited α] {enc : α → List Value} {k : Nat} {w : World} {g n : Nat} {os : Array Obj} {d dk : Array α} (h : HoldsK enc k w g 0 d) (hg : g < w.heap.size) (hs : dk.size = d.size) : HoldsK enc k (sortWorldK enc k w g 0 n dk os) g 0 dk :=
  holdsK_sortWorldK_c enc k w g 0 d dk n os h hg hs
theorem perm_of {α : Type} [Inhabited α] {d d' : Array α} (h : PermIn 0 d.size d d') : d'.toList.Perm d.toList := by
  obtain ⟨h1, -, h3⟩ := h
  have e1 : d'.extract 0 d.size = d' := by rw [← h1]; simp
  have e2 : d.extract 0 d.size = d := by simp
  rwa [e1, e2] at h3
theorem sorted_of {α : Type} [Inhabited α] {lt : α → α → Bool} {n : Nat} {d : Array α} (hn : n = d.size) (h : SortedIn lt 0 n d) : d.toList.Pairwise fun x y => lt y x = false := by
  subst hn
  rw [List.pairwise_iff_getElem]
  intro i j hi hj hij
  have := h i j (Nat.zero_le _) hij (by simpa using hj)
  have hi' : i < d.size := by simpa using hi
  have hj' : j < d.size := by simpa using hj
  rw [getElem!_pos d i hi', getElem!_pos d j hj'] at this
  simpa using this
end
end Go.Proofs.YtbhkfemebionnaaGreatDoor
