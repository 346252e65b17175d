/- Contracts of own, and of the reference's Listed and In. -/
import Derived.Test.YteaofninjbhiaaaDoorCheck
namespace Go.Proofs.YteaofninjbhiaaaDoor
open Go.RowKit

theorem infoR : (Tryd.prog.info? 73).map (fun i => (i.zero, i.size, i.bytes)) = some (some (.agg #[.int .i64 0, .int .i64 0]), 2, 16) := by kernel_rfl
theorem infoP : (Tryd.prog.info? 37).map (fun i => (i.zero, i.size, i.bytes)) = some (some (.agg #[.int .i64 0, .int .i64 0]), 2, 16) := by kernel_rfl
theorem infoI : (Tryd.prog.info? 3).map (fun i => (i.zero, i.size, i.bytes)) = some (some (.int .i64 0), 1, 8) := by kernel_rfl

set_option maxHeartbeats 1000000 in
theorem own_any (A : Option Addr) (n c : Nat) (l : RL) (w : World) (hl : Rs w A n l) (hn : n ≤ 1000000) :
    Calls Tryd.prog 13 #[.slice A n c] w fun e w' => ∃ r, e = .returned r ∧ OutR 73 l w r w' := by
  obtain ⟨rfl, _⟩ := id hl
  go_enter Tryd.func13, Tryd.ntmps13
  go_wp2
  go_loopw [3, 8] (fun v i wr => ∃ k : Nat, k ≤ l.length ∧ i = .int .i64 k ∧ wr.ownsRow w.heap.size 73 2 v k (rv (l.take k)) ∧ Below w.heap.size w wr) (fun _ i _ => l.length - (intOf i).toNat)
  case atStart => exact ⟨0, Nat.zero_le _, rfl, World.ownsRow_nil _ _ _ _, Below.refl _ _⟩
  case round =>
    obtain ⟨k, hk, rfl, hown, hb⟩ := hrel
    have hsz := hb.size
    by_cases hlt : k < l.length
    · obtain ⟨b, o, rfl, hbl, hc1, hc2⟩ := (hl.below hb).at1 hlt
      have ht := Lib.hid (rv_take_succ l k hlt)
      generalize l[k].1 = x at *
      generalize l[k].2 = y at *
      go_wp2_with (at_builtin; refine wpList_push rfl _ _ _ rfl w.heap.size _ _ 2 16 Tryd.underlying29 infoR rfl (by omega) _ k (rv (l.take k)) rfl (hown.alloc _) [.int .i64 x, .int .i64 y] _ _ _ rfl (by first | rfl | simp) rfl (two_one _ _) (by unfold maxLen; omega) (by omega) (by first | omega | (simp; omega) | simp) ?_; intro g cap w1 hown1 hg1)
      go_roundw
      case rel => exact ⟨k + 1, by omega, by go_num, by rw [ht.out]; exact hown1, below_push (hb.alloc hsz _) (Nat.le_refl _) (hown.alloc _) hg1⟩
      case measure => simp [intOf]; omega
    · obtain rfl : k = l.length := by omega
      rw [List.take_length] at hown
      obtain ⟨A', c', rfl⟩ := own_form hown
      go_wp2
      go_ret
      exact ⟨_, rfl, A', c', rfl, hown, hb⟩

set_option maxHeartbeats 1000000 in
theorem refIn_any (A : Option Addr) (n c : Nat) (l : RL) (ch : Int) (w : World) (hl : Rs w A n l) (hn : n ≤ 1000000) :
    Calls Tryd.prog 57 #[.slice A n c, .int .i64 ch] w fun e w' => e = .returned (.bool (inB l ch)) ∧ w = w' := by
  obtain ⟨rfl, _⟩ := id hl
  go_enter Tryd.func57, Tryd.ntmps57
  go_wp2
  go_loop [5] (fun i => ∃ k : Nat, k ≤ l.length ∧ i = .int .i64 k ∧ inB l ch = inB (l.drop k) ch) (fun i => l.length - (intOf i).toNat)
  case atStart => exact ⟨0, Nat.zero_le _, rfl, rfl⟩
  case round =>
    obtain ⟨k, hk, rfl, hin⟩ := hrel
    by_cases hlt : k < l.length
    · obtain ⟨b, o, rfl, hbl, hc1, hc2⟩ := hl.at1 hlt
      rw [List.drop_eq_getElem_cons hlt] at hin
      have hin' : inB l ch = (decide (l[k].1 ≤ ch ∧ ch ≤ l[k].2) || inB (l.drop (k + 1)) ch) := hin
      clear hin
      have HI := Lib.hid hin'
      clear hin'
      generalize l[k].1 = x at *
      generalize l[k].2 = y at *
      go_wp2
      · go_ret
        exact ⟨ret_bool (by rw [HI.out]; simp [show x ≤ ch from by assumption, show ch ≤ y from by assumption]), rfl⟩
      · have h1 : y < ch := by assumption
        go_round
        case rel => exact ⟨k + 1, by omega, by go_num, by rw [HI.out, show decide (x ≤ ch ∧ ch ≤ y) = false from by simp; omega]; rfl⟩
        case measure => simp [intOf]; omega
      · have h1 : ¬ x ≤ ch := by assumption
        go_round
        case rel => exact ⟨k + 1, by omega, by go_num, by rw [HI.out, show decide (x ≤ ch ∧ ch ≤ y) = false from by simp; omega]; rfl⟩
        case measure => simp [intOf]; omega
    · have hf := Lib.hid hin
      clear hin
      go_wp2
      go_ret
      exact ⟨ret_bool (by rw [hf.out, List.drop_eq_nil_of_le (by omega)]; rfl), rfl⟩

set_option maxHeartbeats 1000000 in
theorem refListed_any (A : Option Addr) (n c : Nat) (l : RL) (w : World) (hl : Rs w A n l) (hn : n ≤ 1000000) (hr : ∀ r ∈ l, 1 ≤ r.1 ∧ r.1 ≤ r.2 ∧ r.2 ≤ 999) :
    Calls Tryd.prog 58 #[.slice A n c] w fun e w' => ∃ r, e = .returned r ∧ OutI 3 (listed l) w r w' := by
  obtain ⟨rfl, _⟩ := id hl
  have HR := Lib.hid hr
  clear hr
  go_enter Tryd.func58, Tryd.ntmps58
  go_wp2
  go_loopw [3, 4] (fun v i wr => ∃ k : Nat, k ≤ l.length ∧ i = .int .i64 k ∧ wr.ownsRow w.heap.size 3 1 v (listed (l.take k)).length (iv (listed (l.take k))) ∧ Below w.heap.size w wr) (fun _ i _ => l.length - (intOf i).toNat)
  case atStart => exact ⟨0, Nat.zero_le _, rfl, World.ownsRow_nil _ _ _ _, Below.refl _ _⟩
  case round =>
    obtain ⟨k, hk, rfl, hown, hb⟩ := hrel
    have hsz := hb.size
    by_cases hlt : k < l.length
    · obtain ⟨b, o, rfl, hbl, hc1, hc2⟩ := hl.at1 hlt
      obtain ⟨hcc, hcf⟩ := bcell hb
      have ht := Lib.hid (listed_take_succ l k hlt)
      have hlen := listed_take_length HR.out k (by omega)
      have hrk := HR.out l[k] (List.getElem_mem hlt)
      generalize listed (l.take k) = L at *
      generalize l[k].1 = x at *
      generalize l[k].2 = y at *
      obtain ⟨wo, rfl⟩ : ∃ wo : World, wo = wr := ⟨_, rfl⟩
      go_wp2
      go_loopw [3, 5] (fun v i wr => ∃ t : Nat, t ≤ (y + 1 - x).toNat ∧ i = .int .i64 (x + t) ∧ wr.ownsRow w.heap.size 3 1 v (L.length + t) (iv (L ++ (span x y).take t)) ∧ Below w.heap.size w wr) (fun _ i _ => (y + 1 - intOf i).toNat)
      case atStart => exact ⟨0, Nat.zero_le _, by simp, by simpa using hown, hb⟩
      case round =>
        obtain ⟨t, ht2, rfl, hown2, hb2⟩ := hrel
        clear hcc hcf
        obtain ⟨hcc, hcf⟩ := bcell hb2
        have hsz2 := hb2.size
        by_cases hly : x + t ≤ y
        · have hs := Lib.hid (span_take_succ x y t (by omega))
          go_wp2_with (at_builtin; refine wpList_push rfl _ _ _ rfl w.heap.size _ _ 1 8 Tryd.underlying54 infoI rfl (by omega) _ (L.length + t) _ rfl hown2 [.int .i64 (x + t)] _ _ _ rfl (by first | rfl | simp) rfl (one_one _) (by unfold maxLen; omega) (by omega) (by first | omega | (simp; omega) | simp) ?_; intro g cap w1 hown1 hg1)
          go_roundw
          case rel => exact ⟨t + 1, by omega, by go_num, by rw [hs.out, ← List.append_assoc, iv_append]; exact hown1, below_push hb2 (Nat.le_refl _) hown2 hg1⟩
          case measure => simp [intOf]; omega
        · obtain rfl : t = (y + 1 - x).toNat := by omega
          rw [← span_length, List.take_length, ← List.length_append] at hown2
          go_wp2
          go_roundw
          case rel => exact ⟨k + 1, by omega, by go_num, by rw [ht.out]; exact hown2, hb2⟩
          case measure => simp [intOf]; omega
    · obtain rfl : k = l.length := by omega
      rw [List.take_length] at hown
      obtain ⟨A', c', rfl⟩ := own_form hown
      go_wp2
      go_ret
      exact ⟨_, rfl, A', c', rfl, hown, hb⟩
end Go.Proofs.YteaofninjbhiaaaDoor
