/- Contracts of ranges, of the program and of the reference. -/
import Derived.Test.YteaofninjbhiaaaDoorSets
import Derived.RangeFuncBox
namespace Go.Proofs.YteaofninjbhiaaaDoor
open Go.RowKit

theorem rv_last (L : RL) (a c : Value) : (rv L ++ [a, c])[L.length * 2 + 1]? = some c := by
  rw [List.getElem?_append_right (by rw [rv_length]; omega), rv_length]
  simp
theorem rv_last_set (L : RL) (a c d : Value) : (rv L ++ [a, c]).set (L.length * 2 + 1) d = rv L ++ [a, d] := by
  rw [List.set_append_right _ _ (by rw [rv_length]; omega), rv_length]
  simp
theorem rv_snoc (L : RL) (a c : Int) : rv (L ++ [(a, c)]) = rv L ++ [.int .i64 a, .int .i64 c] := by rw [rv_append]; rfl

set_option maxRecDepth 100000 in
set_option maxHeartbeats 2000000 in
theorem ranges_any (b : Nat) (m : Nat → Bool) (w : World) (hb : Bits w b 78 m) (h0 : m 0 = false) :
    Calls Tryd.prog 46 #[.pointer (some ⟨b, 0, none⟩)] w fun e w' => ∃ r, e = .returned r ∧ OutR 37 (rangesOf m) w r w' := by
  have H0 := Lib.hid h0
  clear h0
  have hbl := hb.lt
  go_enter Tryd.func46, Tryd.ntmps46
  go_wp2
  go_loopw [3, 4] (fun v i wr => ∃ k : Nat, k ≤ 999 ∧ i = .int .i64 (k + 1 : Nat) ∧ wr.ownsRow w.heap.size 37 2 v (rgo m k).length (rv (rgo m k)) ∧ Below w.heap.size w wr) (fun _ i _ => 1000 - (intOf i).toNat)
  case atStart => exact ⟨0, Nat.zero_le _, by go_num, World.ownsRow_nil _ _ _ _, Below.refl _ _⟩
  case round =>
    obtain ⟨k, hk, rfl, hown, hbw⟩ := hrel
    have hsz := hbw.size
    by_cases hlt : k < 999
    · have hbr := hb.below hbw hbl
      have hc1 := hbr.cell (i := k + 1) (by omega)
      have hc0 := hbr.cell (i := k) (by omega)
      have hlen := rgo_length m k
      cases h1 : m (k + 1) with
      | false =>
        have hn := Lib.hid (rgo_no h1)
        rw [h1] at hc1
        clear h1 hc0
        go_wp2
        go_roundw
        case rel => exact ⟨k + 1, by omega, by go_num, by rw [hn.out]; exact hown, hbw⟩
        case measure => simp [intOf]; omega
      | true =>
        rw [h1] at hc1
        cases h2 : m k with
        | false =>
          have hn := Lib.hid (rgo_new h1 h2)
          rw [h2] at hc0
          clear h1 h2
          generalize rgo m k = L at *
          go_wp2_with ((at_builtin; refine wpList_push rfl _ _ _ rfl w.heap.size _ _ 2 16 Tryd.underlying22 infoP rfl (by omega) _ L.length (rv L) rfl hown [.int .i64 (k + 1), .int .i64 (k + 1)] _ _ _ rfl (by first | rfl | simp) rfl (two_one _ _) (by unfold maxLen; omega) (by omega) (by first | omega | (simp; omega) | simp) ?_; intro g cap w1 hown1 hg1); have hcl := hown1.cellAt (L.length * 2 + 1) (by omega); rw [rv_last] at hcl; have hcf := hown1.frozenAt (L.length * 2 + 1))
          go_roundw
          case rel => exact ⟨k + 1, by omega, by go_num, by
            rw [hn.out, rv_snoc, List.length_append, ← rv_last_set L _ (.int .i64 (k + 1))]
            exact (hown1.stored _ _).1, below_push (below_push hbw (Nat.le_refl _) hown hg1) (Nat.le_refl _) hown1 (hown1.stored _ _).2⟩
          case measure => simp [intOf]; omega
        | true =>
          obtain ⟨L, a, e1, e2⟩ := rgo_on H0.out h1 h2
          rw [e1, rv_snoc, List.length_append] at hown
          have hn := Lib.hid e2
          rw [h2] at hc0
          rw [e1, List.length_append] at hlen
          simp only [List.length_cons, List.length_nil, Nat.zero_add] at hlen
          clear h1 h2 e1 e2
          obtain ⟨g, cap, rfl⟩ := ownsRow_succ hown
          have hcl := hown.cellAt (L.length * 2 + 1) (by first | omega | (simp; omega) | simp)
          rw [rv_last] at hcl
          have hcf := hown.frozenAt (L.length * 2 + 1)
          go_wp2
          go_roundw
          case rel => exact ⟨k + 1, by omega, by go_num, by
            rw [hn.out, rv_snoc, List.length_append, ← rv_last_set L _ (.int .i64 k)]
            exact (hown.stored _ _).1, below_push hbw (Nat.le_refl _) hown (hown.stored _ _).2⟩
          case measure => simp [intOf]; omega
    · obtain rfl : k = 999 := by omega
      obtain ⟨A', c', rfl⟩ := own_form hown
      go_wp2
      go_ret
      exact ⟨_, rfl, A', c', rfl, hown, hbw⟩
end Go.Proofs.YteaofninjbhiaaaDoor
