/- Contracts of the functions that hold a set as a row of bools: put, ranges, Make, Of; and of the reference's Members, Ranges, Set, Make, Of. -/
import Derived.Test.YteaofninjbhiaaaDoorOwn
namespace Go.Proofs.YteaofninjbhiaaaDoor
open Go.RowKit

theorem infoB : (Tryd.prog.info? 4).map (fun i => (i.zero, i.size, i.bytes)) = some (some (.bool false), 1, 1) := by kernel_rfl
theorem zeros_eq : Tryd.zeroCells78 = Array.replicate 1001 (Value.bool false) := by kernel_rfl
/-- block b holds the set m -/
def Bits (w : World) (b : Nat) (t : TypeId) (m : Nat → Bool) : Prop := w.rowIs b t 1001 (fun c => .bool (m c))
theorem bits_alloc (w : World) : Bits (w.alloc (.cells Tryd.zeroCells78 78)) w.heap.size 78 (fun _ => false) := by
  rw [zeros_eq]
  have := World.rowIs_alloc w (Array.replicate 1001 (Value.bool false)) 78 (fun _ => .bool false) (fun i hi => by simp at hi; simp [hi])
  unfold Bits
  simpa using this
theorem Bits.cell {w : World} {b : Nat} {t : TypeId} {m : Nat → Bool} (h : Bits w b t m) {i : Nat} (hi : i < 1001) : w.cell? ⟨b, i, none⟩ = some (.bool (m i)) := World.rowIs.cell h hi
theorem Bits.frozen {w : World} {b : Nat} {t : TypeId} {m : Nat → Bool} (h : Bits w b t m) (i : Nat) : w.frozen? ⟨b, i, none⟩ = false := World.rowIs.frozen h i
theorem Bits.lt {w : World} {b : Nat} {t : TypeId} {m : Nat → Bool} (h : Bits w b t m) : b < w.heap.size := World.rowIs.lt h
theorem Bits.of_block {w w' : World} {b : Nat} {t : TypeId} {m : Nat → Bool} (h : Bits w b t m) (e : w'.heap[b]? = w.heap[b]?) : Bits w' b t m := World.rowIs.of_block h e
theorem Bits.below {w w' : World} {b B : Nat} {t : TypeId} {m : Nat → Bool} (h : Bits w b t m) (hb : Below B w w') (hB : b < B) : Bits w' b t m := h.of_block (hb.block b hB)
theorem Bits.alloc {w : World} {b : Nat} {t : TypeId} {m : Nat → Bool} (h : Bits w b t m) (o : Obj) : Bits (w.alloc o) b t m := World.rowIs.alloc h o
theorem Bits.put {w : World} {b : Nat} {t : TypeId} {m m' : Nat → Bool} (h : Bits w b t m) (i : Nat) (v : Bool) (e : ∀ c, m' c = if c = i then v else m c) : Bits (w.setCell ⟨b, i, none⟩ (.bool v)) b t m' :=
  (World.rowIs.set h i (.bool v)).congr fun c _ => by
    show (if c = i then Value.bool v else Value.bool (m c)) = Value.bool (m' c)
    rw [e]; split <;> rfl
theorem Bits.congr {w : World} {b : Nat} {t : TypeId} {m m' : Nat → Bool} (h : Bits w b t m) (e : ∀ c, c < 1001 → m c = m' c) : Bits w b t m' := World.rowIs.congr h fun c hc => by show Value.bool (m c) = Value.bool (m' c); rw [e c hc]

theorem wpList_make_bits {P : Program} {w : World} {ops : Array Oper} {rest : List Oper} {o : Oper} {a : Act} {Q : Exit → Act → World → Prop} (hg : o.guard = none) (l c : Operand) (t : TypeId) (hop : o.op = Op.makeSlice t l c)
    (e : TypeId) (h1 : P.underlying t = some (.slice e)) (hinfo : (P.info? e).map (fun i => (i.zero, i.size, i.bytes)) = some (some (.bool false), 1, 1))
    (hl : a.eval l = .int .i64 1001) (hc : a.eval c = .int .i64 1001)
    (hK : ∀ w', Bits w' w.heap.size e (fun _ => false) → Below w.heap.size w w' → w.heap.size < w'.heap.size → wpList P ops Q rest (a.put o.dst (.slice (some ⟨w.heap.size, 0, none⟩) 1001 1001)) w') :
    wpList P ops Q (o :: rest) a w := by
  obtain ⟨i, hi, hz, hs, hb⟩ := info_parts hinfo
  refine wpList_plain hg fun K hK' => ?_
  have hrun := run_make (P := P) w t e i (.bool false) h1 hi hz .i64 .i64 1001 1001 (by omega) (by omega) (by rw [hb]; omega) (by omega)
  unfold Oper.wp
  simp [execOp, hop, hl, hc, hrun, Result.andThen]
  refine hK' _ _ (hK _ ?_ ((Below.refl _ _).alloc (Nat.le_refl _) _) (by simp))
  rw [hs]
  exact World.rowIs_made w (.bool false) 1001 e

theorem only_cell {w w' : World} {b : Nat} (h : w.grownBy w' (some b)) : ∀ b' o, b' ≠ b → b' < w.heap.size → w'.cell? ⟨b', o, none⟩ = w.cell? ⟨b', o, none⟩ :=
  fun b' o hne hlt => World.cell?_of_block (h.block b' hlt (by simpa using hne))
theorem only_alloc {a w : World} {row : Option Nat} (h : a.grownBy w row) (o : Obj) : a.grownBy (w.alloc o) row := h.trans (World.grownBy_alloc w o row)
theorem only_set {a w : World} {g : Nat} (h : a.grownBy w (some g)) (i : Nat) (u : Value) : a.grownBy (w.setCell ⟨g, i, none⟩ u) (some g) :=
  h.trans ⟨rfl, rfl, rfl, by simp [World.setCell], fun k _ hne => Below.heap_setCell _ _ _ _ (fun e => hne (by rw [e]))⟩
theorem only_below {a b c : World} {row : Option Nat} (h : a.grownBy b row) (k : Below b.heap.size b c) : a.grownBy c row :=
  h.trans ⟨k.os, k.tape, k.output, k.size, fun i hi _ => k.block i hi⟩
theorem Rs.ne {w : World} {b : Nat} {t : TypeId} {m : Nat → Bool} {A : Option Addr} {n : Nat} {l : RL} (h : Rs w A n l) (hb : Bits w b t m) {b' o : Nat} (hA : A = some ⟨b', o, none⟩) (hn : 0 < l.length) : b' ≠ b := by
  rintro rfl
  obtain ⟨b2, o2, e, _, hc⟩ := h.at_ hn
  rw [hA] at e
  injection e with e
  injection e with e1 e2
  subst e1; subst e2
  have hc := (hc 0 hn).1
  obtain ⟨c, hb1, hb2, hb3⟩ := hb
  simp only [World.cell?, hb1] at hc
  by_cases hlt : o < 1001
  · have := hb3 o hlt; simp_all
  · rw [Array.getElem?_eq_none (by omega)] at hc; cases hc
theorem Rs.only {w w' : World} {b : Nat} {t : TypeId} {m : Nat → Bool} {A : Option Addr} {n : Nat} {l : RL} (h : Rs w A n l) (hb : Bits w b t m) (hg : w.grownBy w' (some b)) : Rs w' A n l := by
  refine ⟨h.1, h.2.1, fun hn => ?_⟩
  obtain ⟨b', o, e, hlt, hc⟩ := h.2.2 hn
  refine ⟨b', o, e, by have := hg.size; omega, fun j u hu => ?_⟩
  rw [only_cell hg b' _ (h.ne hb e (by have := h.1; omega)) hlt]
  exact hc j u hu

set_option maxHeartbeats 2000000 in
theorem put_any (b : Nat) (v : Bool) (m : Nat → Bool) (A : Option Addr) (n c : Nat) (l : RL) (w : World) (hb : Bits w b 78 m) (hl : Rs w A n l) (hn : n ≤ 1000000) (hr : ∀ r ∈ l, 1 ≤ r.1 ∧ r.1 ≤ r.2 ∧ r.2 ≤ 999) :
    Calls Tryd.prog 45 #[.pointer (some ⟨b, 0, none⟩), .bool v, .slice A n c] w fun e w' => e = .returned (.tuple #[]) ∧ Bits w' b 78 (fun c => if inB l c then v else m c) ∧ w.grownBy w' (some b) := by
  obtain ⟨rfl, _⟩ := id hl
  have HR := Lib.hid hr
  clear hr
  have hbl := hb.lt
  go_enter Tryd.func45, Tryd.ntmps45
  go_wp2
  go_loopw [11] (fun i wr => ∃ k : Nat, k ≤ l.length ∧ i = .int .i64 k ∧ Bits wr b 78 (fun c => if inB (l.take k) c then v else m c) ∧ w.grownBy wr (some b)) (fun i _ => l.length - (intOf i).toNat)
  case atStart => exact ⟨0, Nat.zero_le _, rfl, hb.congr (fun c _ => by simp [inB]), World.grownBy.refl _ _⟩
  case round =>
    obtain ⟨k, hk, rfl, hbk, hg⟩ := hrel
    have hsz := hg.size
    by_cases hlt : k < l.length
    · have hlk := hl.only hb hg
      obtain ⟨b', o, rfl, hbl', hc1, hc2⟩ := hlk.at1 hlt
      have hne := hlk.ne hbk rfl (by omega)
      have hrk := HR.out l[k] (List.getElem_mem hlt)
      have ht := Lib.hid (inB_take_succ l k hlt)
      clear hlk
      obtain ⟨x, hx⟩ : ∃ x : Nat, l[k].1 = (x : Int) := ⟨l[k].1.toNat, by omega⟩
      obtain ⟨y, hy⟩ : ∃ y : Nat, l[k].2 = (y : Int) := ⟨l[k].2.toNat, by omega⟩
      rw [hx, hy] at hrk
      rw [hx] at hc1
      rw [hy] at hc2
      have Hx := Lib.hid hx
      have Hy := Lib.hid hy
      clear hx hy
      obtain ⟨wo, rfl⟩ : ∃ wo : World, wo = wr := ⟨_, rfl⟩
      go_wp2
      go_loopw [8] (fun i wr => ∃ t : Nat, t ≤ y + 1 - x ∧ i = .int .i64 (x + t : Nat) ∧ Bits wr b 78 (fun c => if inB (l.take k) c || (x ≤ c && c < x + t) then v else m c) ∧ (wo.alloc (.cells #[.int .i64 x, .int .i64 y] 37)).grownBy wr (some b)) (fun i _ => (y + 1 - intOf i).toNat)
      case atStart => exact ⟨0, Nat.zero_le _, by go_num, (hbk.alloc _).congr (fun c _ => by rw [win_zero]), World.grownBy.refl _ _⟩
      case round =>
        obtain ⟨t, ht2, rfl, hbt, hgt⟩ := hrel
        have hcc := only_cell hgt
        have hsz2 := hgt.size
        simp at hsz2
        by_cases hly : x + t ≤ y
        · have hcell := hbt.cell (i := x + t) (by omega)
          have hfr := hbt.frozen (x + t)
          have hcl : wr.cell? ⟨wo.heap.size, 1, none⟩ = some (.int .i64 y) := by rw [hcc _ _ (by omega) (by simp)]; simp
          clear hcc
          generalize (if inB (l.take k) ((x + t : Nat) : Int) || (x ≤ x + t && x + t < x + t) then v else m (x + t)) = old at *
          go_wp2
          go_roundw
          case rel => exact ⟨t + 1, by omega, by go_num, hbt.put (x + t) v (fun c => win_step _ _ _ _ _ _), only_set hgt _ _⟩
          case measure => simp [intOf]; omega
        · have hcl : wr.cell? ⟨wo.heap.size, 1, none⟩ = some (.int .i64 y) := by rw [hcc _ _ (by omega) (by simp)]; simp
          clear hcc
          obtain rfl : t = y + 1 - x := by omega
          go_wp2
          go_roundw
          case rel => exact ⟨k + 1, by omega, by go_num, hbt.congr (fun c _ => by rw [ht.out, ← win_end _ _ _ c _ _ Hx.out Hy.out (by omega)]), (only_alloc hg _).trans hgt⟩
          case measure => simp [intOf]; omega
    · obtain rfl : k = l.length := by omega
      rw [List.take_length] at hbk
      go_wp2
      go_end0
      exact ⟨rfl, hbk, hg⟩
end Go.Proofs.YteaofninjbhiaaaDoor
