/- Plain law: the set of the channels of a set, in any order, is this set. No program in sight. -/
import Derived.Test.YteaofninjbhiaaaDoorPlain
namespace Go.Proofs.YteaofninjbhiaaaDoor

theorem chkFrom_cons {p : Int} {r : Int × Int} {t : RL} (h : chkFrom p (r :: t) = 0) : chkFrom r.2 t = 0 := by
  simp only [chkFrom] at h
  split at h
  · split at h
    · omega
    · exact h
  · omega
theorem listed_cons (r : Int × Int) (t : RL) : listed (r :: t) = span r.1 r.2 ++ listed t := by simp [listed]
theorem listed_asc : ∀ {l : RL} {p : Int}, chkFrom p l = 0 → (listed l).Pairwise (· < ·)
  | [], _, _ => by simp [listed]
  | r :: t, p, h => by
    rw [listed_cons, List.pairwise_append]
    have ht := chkFrom_cons h
    refine ⟨?_, listed_asc ht, fun a ha b hb => ?_⟩
    · unfold span
      rw [List.pairwise_map]
      exact List.Pairwise.imp (fun {a b} hab => by omega) List.pairwise_lt_range
    · rw [mem_span] at ha
      obtain ⟨x, hx, hxb⟩ := mem_listed.1 hb
      have := chkFrom_ok ht x hx
      omega
theorem listed_step {l : RL} (h : chk l = 0) (k : Nat) (hk : k + 1 < (listed l).length) : (listed l)[k] ≤ (listed l)[k + 1] :=
  Int.le_of_lt (List.pairwise_iff_getElem.1 (listed_asc h) k (k + 1) (by omega) hk (by omega))
theorem listed_le : ∀ {l : RL} {p : Int}, chkFrom p l = 0 → -1 ≤ p → (listed l).length ≤ (998 - p).toNat
  | [], _, _, _ => by simp [listed]
  | r :: t, p, h, hp => by
    have hr := chkFrom_ok h r (by simp)
    have ih := listed_le (chkFrom_cons h) (by omega)
    rw [listed_cons, List.length_append, span_length]
    omega
theorem listed_max {l : RL} (h : chk l = 0) : (listed l).length ≤ 999 := by
  have := listed_le (p := -1) h (by omega)
  omega
theorem of_listed {l : RL} (h : chk l = 0) {L : List Int} (hL : L.length ≤ 4096) (hm : ∀ c, c ∈ L ↔ c ∈ listed l) : ofL L = (l, 0) := by
  rw [ofL_ok hL, rangesOf_self h]
  · intro c
    rw [Bool.eq_iff_iff, inB_listed, ← hm]
    simp
  · rw [List.all_eq_true]
    intro c hc
    obtain ⟨r, hr, h1, h2⟩ := mem_listed.1 ((hm c).1 hc)
    have := chk_ok h r hr
    simp [chanB]; omega
theorem rot_mem (L : List Int) (k : Nat) (c : Int) : c ∈ L.drop k ++ (L.take k ++ L.take 1) ↔ c ∈ L := by
  simp only [List.mem_append]
  constructor
  · rintro (h | h | h)
    · exact List.mem_of_mem_drop h
    · exact List.mem_of_mem_take h
    · exact List.mem_of_mem_take h
  · intro h
    rw [← List.take_append_drop k L] at h
    rcases List.mem_append.1 h with h | h
    · exact .inr (.inl h)
    · exact .inl h
end Go.Proofs.YteaofninjbhiaaaDoor
