/- Contracts of the reference's Ranges, Members, Set, Make, Of. -/
import Derived.Test.YteaofninjbhiaaaDoorMake
namespace Go.Proofs.YteaofninjbhiaaaDoor
open Go.RowKit

set_option maxRecDepth 100000 in
set_option maxHeartbeats 2000000 in
theorem refRanges_any (b : Nat) (m : Nat → Bool) (w : World) (hb : Bits w b 4 m) (h0 : m 0 = false) :
    Calls Tryd.prog 60 #[.slice (some ⟨b, 0, none⟩) 1001 1001] w fun e w' => ∃ r, e = .returned r ∧ OutR 73 (rangesOf m) w r w' := by
  have H0 := Lib.hid h0
  clear h0
  have hbl := hb.lt
  go_enter Tryd.func60, Tryd.ntmps60
  go_wp2
  go_loopw [3, 4] (fun v i wr => ∃ k : Nat, k ≤ 999 ∧ i = .int .i64 (k + 1 : Nat) ∧ wr.ownsRow w.heap.size 73 2 v (rgo m k).length (rv (rgo m k)) ∧ Below w.heap.size w wr) (fun _ i _ => 1000 - (intOf i).toNat)
  case atStart => exact ⟨0, Nat.zero_le _, by go_num, World.ownsRow_nil _ _ _ _, Below.refl _ _⟩
  case round =>
    obtain ⟨k, hk, rfl, hown, hbw⟩ := hrel
    have hsz := hbw.size
    by_cases hlt : k < 999
    · have hbr := hb.below hbw hbl
      have hc1 := hbr.cell (i := k + 1) (by omega)
      have hc0 := hbr.cell (i := k) (by omega)
      have hlen := rgo_length m k
      cases h1 : m (k + 1) with
      | false =>
        have hn := Lib.hid (rgo_no h1)
        rw [h1] at hc1
        clear h1 hc0
        go_wp2
        go_roundw
        case rel => exact ⟨k + 1, by omega, by go_num, by rw [hn.out]; exact hown, hbw⟩
        case measure => simp [intOf]; omega
      | true =>
        rw [h1] at hc1
        cases h2 : m k with
        | false =>
          have hn := Lib.hid (rgo_new h1 h2)
          rw [h2] at hc0
          have hm1 := Lib.hid h1
          clear h1 h2
          generalize rgo m k = L at *
          go_wp2_with ((at_builtin; refine wpList_push rfl _ _ _ rfl w.heap.size _ _ 2 16 Tryd.underlying29 infoR rfl (by omega) _ L.length (rv L) rfl hown [.int .i64 (k + 1), .int .i64 (k + 1)] _ _ _ rfl (by first | rfl | simp) rfl (two_one _ _) (by unfold maxLen; omega) (by omega) (by first | omega | (simp; omega) | simp) ?_; intro g cap w1 hown1 hg1); have hcl := hown1.cellAt (L.length * 2 + 1) (by omega); rw [rv_last] at hcl; have hcf := hown1.frozenAt (L.length * 2 + 1); have hbel1 := below_push hbw (Nat.le_refl _) hown hg1; have hc1' := (hb.below hbel1 hbl).cell (i := k + 1) (by omega); rw [show m (k + 1) = true from hm1.out] at hc1')
          go_roundw
          case rel => exact ⟨k + 1, by omega, by go_num, by
            rw [hn.out, rv_snoc, List.length_append, ← rv_last_set L _ (.int .i64 (k + 1))]
            exact (hown1.stored _ _).1, below_push (below_push hbw (Nat.le_refl _) hown hg1) (Nat.le_refl _) hown1 (hown1.stored _ _).2⟩
          case measure => simp [intOf]; omega
        | true =>
          obtain ⟨L, a, e1, e2⟩ := rgo_on H0.out h1 h2
          rw [e1, rv_snoc, List.length_append] at hown
          have hn := Lib.hid e2
          rw [h2] at hc0
          rw [e1, List.length_append] at hlen
          simp only [List.length_cons, List.length_nil, Nat.zero_add] at hlen
          clear h1 h2 e1 e2
          obtain ⟨g, cap, rfl⟩ := ownsRow_succ hown
          have hcl := hown.cellAt (L.length * 2 + 1) (by first | omega | (simp; omega) | simp)
          rw [rv_last] at hcl
          have hcf := hown.frozenAt (L.length * 2 + 1)
          go_wp2
          go_roundw
          case rel => exact ⟨k + 1, by omega, by go_num, by
            rw [hn.out, rv_snoc, List.length_append, ← rv_last_set L _ (.int .i64 k)]
            exact (hown.stored _ _).1, below_push hbw (Nat.le_refl _) hown (hown.stored _ _).2⟩
          case measure => simp [intOf]; omega
    · obtain rfl : k = 999 := by omega
      obtain ⟨A', c', rfl⟩ := own_form hown
      go_wp2
      go_ret
      exact ⟨_, rfl, A', c', rfl, hown, hbw⟩

set_option maxRecDepth 100000 in
set_option maxHeartbeats 2000000 in
theorem refMembers_any (A : Option Addr) (n c : Nat) (l : RL) (w : World) (hl : Rs w A n l) (hn : n ≤ 1000000) (hr : ∀ r ∈ l, 1 ≤ r.1 ∧ r.1 ≤ r.2 ∧ r.2 ≤ 999) :
    Calls Tryd.prog 61 #[.slice A n c] w fun e w' => e = .returned (.slice (some ⟨w.heap.size, 0, none⟩) 1001 1001) ∧ Bits w' w.heap.size 4 (fun c => inB l c) ∧ Below w.heap.size w w' := by
  obtain ⟨rfl, _⟩ := id hl
  have HR := Lib.hid hr
  clear hr
  go_enter Tryd.func61, Tryd.ntmps61
  go_wp2_with (refine wpList_make_bits rfl _ _ _ rfl _ Tryd.underlying95 infoB rfl rfl ?_; intro w0 hb0 hbel0 hz0)
  go_loopw [4] (fun i wr => ∃ k : Nat, k ≤ l.length ∧ i = .int .i64 k ∧ Bits wr w.heap.size 4 (fun c => inB (l.take k) c) ∧ Below w.heap.size w wr) (fun i _ => l.length - (intOf i).toNat)
  case atStart => exact ⟨0, Nat.zero_le _, rfl, hb0.congr (fun c _ => by simp [inB]), hbel0⟩
  case round =>
    clear hb0 hbel0 hz0
    obtain ⟨k, hk, rfl, hbk, hg⟩ := hrel
    have hsz := hg.size
    by_cases hlt : k < l.length
    · obtain ⟨b', o, rfl, hbl', hc1, hc2⟩ := hl.at1 hlt
      have hrk := HR.out l[k] (List.getElem_mem hlt)
      have ht := Lib.hid (inB_take_succ l k hlt)
      obtain ⟨x, hx⟩ : ∃ x : Nat, l[k].1 = (x : Int) := ⟨l[k].1.toNat, by omega⟩
      obtain ⟨y, hy⟩ : ∃ y : Nat, l[k].2 = (y : Int) := ⟨l[k].2.toNat, by omega⟩
      rw [hx, hy] at hrk
      rw [hx] at hc1
      rw [hy] at hc2
      have Hx := Lib.hid hx
      have Hy := Lib.hid hy
      clear hx hy
      obtain ⟨hcc, hcf⟩ := bcell hg
      obtain ⟨wo, rfl⟩ : ∃ wo : World, wo = wr := ⟨_, rfl⟩
      go_wp2
      go_loopw [5] (fun i wr => ∃ t : Nat, t ≤ y + 1 - x ∧ i = .int .i64 (x + t : Nat) ∧ Bits wr w.heap.size 4 (fun c => if inB (l.take k) c || (x ≤ c && c < x + t) then true else false) ∧ Below w.heap.size w wr) (fun i _ => (y + 1 - intOf i).toNat)
      case atStart => exact ⟨0, Nat.zero_le _, by go_num, hbk.congr (fun c _ => by rw [win_zero]; simp), hg⟩
      case round =>
        obtain ⟨t, ht2, rfl, hbt, hgt⟩ := hrel
        clear hcc hcf
        obtain ⟨hcc, hcf⟩ := bcell hgt
        have hsz2 := hgt.size
        by_cases hly : x + t ≤ y
        · have hcell := hbt.cell (i := x + t) (by omega)
          have hfr := hbt.frozen (x + t)
          generalize (if inB (l.take k) ((x + t : Nat) : Int) || (x ≤ x + t && x + t < x + t) then true else false) = old at *
          go_wp2
          go_roundw
          case rel => exact ⟨t + 1, by omega, by go_num, hbt.put (x + t) true (fun c => win_step _ _ _ _ _ _), hgt.setCell (Nat.le_refl _) _⟩
          case measure => simp [intOf]; omega
        · obtain rfl : t = y + 1 - x := by omega
          go_wp2
          go_roundw
          case rel => exact ⟨k + 1, by omega, by go_num, hbt.congr (fun c _ => by rw [ht.out, ← win_end _ _ _ c _ _ Hx.out Hy.out (by omega)]; simp), hgt⟩
          case measure => simp [intOf]; omega
    · obtain rfl : k = l.length := by omega
      rw [List.take_length] at hbk
      go_wp2
      go_ret
      exact ⟨rfl, hbk, hg⟩

set_option maxRecDepth 100000 in
set_option maxHeartbeats 2000000 in
theorem refSet_any (A : Option Addr) (n c : Nat) (l : List Int) (w : World) (hl : Is w A n l) (hn : n ≤ 1000000000) (hr : ∀ c ∈ l, 1 ≤ c ∧ c ≤ 999) :
    Calls Tryd.prog 62 #[.slice A n c] w fun e w' => ∃ r, e = .returned r ∧ OutR 73 (rangesOf fun c => l.contains (c : Int)) w r w' := by
  obtain ⟨rfl, _⟩ := id hl
  have HR := Lib.hid hr
  clear hr
  go_enter Tryd.func62, Tryd.ntmps62
  go_wp2_with (refine wpList_make_bits rfl _ _ _ rfl _ Tryd.underlying95 infoB rfl rfl ?_; intro w0 hb0 hbel0 hz0)
  go_loopw [4] (fun i wr => ∃ k : Nat, k ≤ l.length ∧ i = .int .i64 k ∧ Bits wr w.heap.size 4 (fun c => (l.take k).contains (c : Int)) ∧ Below w.heap.size w wr) (fun i _ => l.length - (intOf i).toNat)
  case atStart => exact ⟨0, Nat.zero_le _, rfl, hb0.congr (fun c _ => by simp), hbel0⟩
  case round =>
    clear hb0 hbel0 hz0
    obtain ⟨k, hk, rfl, hbk, hg⟩ := hrel
    have hsz := hg.size
    by_cases hlt : k < l.length
    · obtain ⟨b', o, rfl, hbl', hc1⟩ := (hl.below hg).at1 hlt
      have hrk := HR.out l[k] (List.getElem_mem hlt)
      have ht := Lib.hid (contains_take l k hlt)
      obtain ⟨x, hx⟩ : ∃ x : Nat, l[k] = (x : Int) := ⟨l[k].toNat, by omega⟩
      rw [hx] at hrk hc1
      have Hx := Lib.hid hx
      clear hx
      have hcell := hbk.cell (i := x) (by omega)
      have hfr := hbk.frozen x
      generalize (l.take k).contains (x : Int) = old at *
      go_wp2
      go_roundw
      case rel => exact ⟨k + 1, by omega, by go_num, hbk.put x true (fun c => by rw [ht.out, Hx.out]; simp only [Int.natCast_inj]), hg.setCell (Nat.le_refl _) _⟩
      case measure => simp [intOf]; omega
    · obtain rfl : k = l.length := by omega
      rw [List.take_length] at hbk
      have h0 := contains_zero HR.out
      go_wp2_with (go_at_call 60; refine (refRanges_any _ _ _ hbk h0).mono ?_; rintro e w1 ⟨r, rfl, ho⟩)
      go_ret
      exact ⟨_, rfl, ho.up hg⟩
end Go.Proofs.YteaofninjbhiaaaDoor
