/- Lemmas and contracts of functions, joined for the claim: PlainZ, PlainD, PlainT, PlainW, PlainX, PlainY, PlainU, PlainN, PlainO, PlainR, PlainC, PlainV. -/
import Derived.Lib.ItoaNum
import Derived.Lib.ParseIntB
import Derived.Lib.AtoiAll
import Derived.Lib.AtoiAllCases
import Derived.Lib.SlTrimSet
import Derived.Lib.Bytealg
namespace Go.Proofs.YtbhkfemebionnaaGreatDoor

def Wd (B : Nat) (l : List Nat) : Prop := ∀ x ∈ l, x < B

theorem Wd.at {B : Nat} {l : List Nat} (h : Wd B l) {k : Nat} (hk : k < l.length) : l[k] < B := h _ (List.getElem_mem hk)
end Go.Proofs.YtbhkfemebionnaaGreatDoor

namespace Go.Proofs.YtbhkfemebionnaaGreatDoor
open Go.Lib

abbrev BT := List UInt8
theorem snoc_ind {α : Type} {P : List α → Prop} (h0 : P []) (hs : ∀ l c, P l → P (l ++ [c])) (l : List α) : P l := by
  have : ∀ r : List α, P r.reverse := by
    intro r
    induction r with
    | nil => exact h0
    | cons c r ih => rw [List.reverse_cons]; exact hs _ _ ih
  have := this l.reverse
  rwa [List.reverse_reverse] at this

def isDg (c : UInt8) : Bool := decide (48 ≤ c.toNat ∧ c.toNat ≤ 57)
theorem isDg_iff {c : UInt8} : isDg c = true ↔ 48 ≤ c.toNat ∧ c.toNat ≤ 57 := by simp [isDg]

def Dgs (l : BT) : Prop := ∀ c ∈ l, isDg c = true
theorem Dgs.append {l k : BT} (h : Dgs l) (h' : Dgs k) : Dgs (l ++ k) := by
  intro c hc
  rcases List.mem_append.1 hc with hc | hc
  · exact h c hc
  · exact h' c hc
theorem Dgs.left {l k : BT} (h : Dgs (l ++ k)) : Dgs l := fun c hc => h c (List.mem_append.2 (.inl hc))
theorem Dgs.take {l : BT} (h : Dgs l) (k : Nat) : Dgs (l.take k) := fun c hc => h c (List.mem_of_mem_take hc)
def dg1 (d : Nat) : UInt8 := UInt8.ofNat (48 + d)
theorem dg1_nat {d : Nat} (h : d < 10) : (dg1 d).toNat = 48 + d := by simp [dg1, UInt8.toNat_ofNat]; omega
theorem dg1_of {c : UInt8} (h : isDg c = true) : c = dg1 (c.toNat - 48) := by
  rw [isDg_iff] at h
  apply UInt8.toNat_inj.1
  rw [dg1_nat (by omega)]; omega

def dval : BT → Nat := List.foldl (fun a c => 10 * a + (c.toNat - 48)) 0
theorem dval_nil : dval [] = 0 := rfl
theorem dval_snoc (l : BT) (c : UInt8) : dval (l ++ [c]) = 10 * dval l + (c.toNat - 48) := by unfold dval; rw [List.foldl_append]; rfl
theorem dval_append (l k : BT) : dval (l ++ k) = dval l * 10 ^ k.length + dval k := by
  refine snoc_ind (P := fun k => dval (l ++ k) = dval l * 10 ^ k.length + dval k) ?_ ?_ k
  · simp [dval_nil]
  · intro k c ih
    rw [← List.append_assoc, dval_snoc, ih, dval_snoc, List.length_append, List.length_singleton, Nat.pow_succ, Nat.mul_add, ← Nat.mul_assoc, Nat.mul_comm 10 (dval l), Nat.mul_assoc, Nat.mul_comm 10 (10 ^ k.length), Nat.add_assoc]
theorem dval_one (c : UInt8) : dval [c] = c.toNat - 48 := by have := dval_snoc [] c; simpa [dval_nil] using this
theorem dval_take_succ (l : BT) (k : Nat) (h : k < l.length) : dval (l.take (k + 1)) = 10 * dval (l.take k) + (l[k].toNat - 48) := by
  rw [List.take_succ_eq_append_getElem h, dval_snoc]
theorem dval_lt {l : BT} (h : Dgs l) : dval l < 10 ^ l.length := by
  revert h
  refine snoc_ind (P := fun l => Dgs l → dval l < 10 ^ l.length) (fun _ => by simp [dval_nil]) (fun l c ih h => ?_) l
  have h1 := ih h.left
  have h2 := isDg_iff.1 (h c (by simp))
  rw [dval_snoc, List.length_append, List.length_singleton, Nat.pow_succ]
  omega
theorem dval_inj : ∀ {k : Nat} {l m : BT}, l.length = k → m.length = k → Dgs l → Dgs m → dval l = dval m → l = m := by
  intro k
  induction k with
  | zero => intro l m hl hm _ _ _; rw [List.length_eq_zero_iff.1 hl, List.length_eq_zero_iff.1 hm]
  | succ k ih =>
    intro l m hl hm dl dm h
    obtain ⟨a, c, rfl⟩ : ∃ a c, l = a ++ [c] := ⟨l.dropLast, l.getLast (by intro h; rw [h] at hl; simp at hl), (List.dropLast_concat_getLast _).symm⟩
    obtain ⟨b, d, rfl⟩ : ∃ a c, m = a ++ [c] := ⟨m.dropLast, m.getLast (by intro h; rw [h] at hm; simp at hm), (List.dropLast_concat_getLast _).symm⟩
    rw [dval_snoc, dval_snoc] at h
    have hc := isDg_iff.1 (dl c (by simp))
    have hd := isDg_iff.1 (dm d (by simp))
    have e1 : dval a = dval b := by omega
    have e2 : c = d := UInt8.toNat_inj.1 (by omega)
    rw [ih (by simpa using hl) (by simpa using hm) dl.left dm.left e1, e2]

theorem dec_small {n : Nat} (h : n < 10) : decDigits n = [dg1 n] := by rw [decDigits, dif_pos h]; rfl
theorem dec_big {n : Nat} (h : ¬ n < 10) : decDigits n = decDigits (n / 10) ++ [dg1 (n % 10)] := by rw [decDigits, dif_neg h]; rfl
theorem dec_step {v d : Nat} (hv : 0 < v) (hd : d < 10) : decDigits (10 * v + d) = decDigits v ++ [dg1 d] := by
  rw [dec_big (by omega)]
  rw [show (10 * v + d) / 10 = v from by omega, show (10 * v + d) % 10 = d from by omega]
theorem dec_of {l : BT} (hd : Dgs l) (h : ∃ c t, l = c :: t ∧ (c ≠ 48 ∨ t = [])) : decDigits (dval l) = l := by
  obtain ⟨c, t, rfl, hc⟩ := h
  refine snoc_ind (P := fun t => Dgs (c :: t) → (c ≠ 48 ∨ t = []) → decDigits (dval (c :: t)) = c :: t) ?_ ?_ t hd hc
  · intro hd _
    have h := hd c (by simp)
    have h' := isDg_iff.1 h
    rw [dval_one, dec_small (by omega), ← dg1_of h]
  · intro t x ih hd hc
    have hc : c ≠ 48 := by rcases hc with h | h; exact h; simp at h
    have hd' : Dgs (c :: t) := fun y hy => hd y (by rcases List.mem_cons.1 hy with h | h <;> simp [h])
    have ih := ih hd' (.inl hc)
    have hx := hd x (by simp)
    have hx' := isDg_iff.1 hx
    have hpos : 0 < dval (c :: t) := by
      rw [show c :: t = [c] ++ t from rfl, dval_append, dval_one]
      have h1 := isDg_iff.1 (hd c (by simp))
      have h2 : c.toNat - 48 ≠ 0 := by
        intro h
        apply hc
        apply UInt8.toNat_inj.1
        show c.toNat = 48
        omega
      have := Nat.mul_pos (Nat.pos_of_ne_zero h2) (Nat.pow_pos (n := t.length) (show 0 < 10 by omega))
      omega
    rw [show c :: (t ++ [x]) = (c :: t) ++ [x] from rfl, dval_snoc, dec_step hpos (by omega), ih, ← dg1_of hx]
end Go.Proofs.YtbhkfemebionnaaGreatDoor

namespace Go.Proofs.YtbhkfemebionnaaGreatDoor
open Go.Lib

end Go.Proofs.YtbhkfemebionnaaGreatDoor

namespace Go.Proofs.YtbhkfemebionnaaGreatDoor
open Go.Lib

end Go.Proofs.YtbhkfemebionnaaGreatDoor

namespace Go.Proofs.YtbhkfemebionnaaGreatDoor
open Go.Lib

end Go.Proofs.YtbhkfemebionnaaGreatDoor

namespace Go.Proofs.YtbhkfemebionnaaGreatDoor
open Go.Lib

end Go.Proofs.YtbhkfemebionnaaGreatDoor

namespace Go.Proofs.YtbhkfemebionnaaGreatDoor
open Go.Lib

theorem digits_cons {acc : Nat} (c : UInt8) (r : BT) : acc * 10 ^ (c :: r).length + dval (c :: r) = (acc * 10 + (c.toNat - 48)) * 10 ^ r.length + dval r := by
  rw [show c :: r = [c] ++ r from rfl, dval_append, dval_one, List.length_append, List.length_singleton, Nat.add_comm 1, Nat.pow_succ, Nat.add_mul, Nat.mul_comm (10 ^ r.length) 10, ← Nat.mul_assoc, Nat.add_assoc]
end Go.Proofs.YtbhkfemebionnaaGreatDoor

namespace Go.Proofs.YtbhkfemebionnaaGreatDoor

end Go.Proofs.YtbhkfemebionnaaGreatDoor

namespace Go.Proofs.YtbhkfemebionnaaGreatDoor
open Go.Lib

end Go.Proofs.YtbhkfemebionnaaGreatDoor

namespace Go.Proofs.YtbhkfemebionnaaGreatDoor
open Go.Lib

theorem takeWhile_all {p : UInt8 → Bool} : ∀ {l : BT}, (∀ c ∈ l, p c = true) → l.takeWhile p = l
  | [], _ => rfl
  | c :: t, h => by rw [List.takeWhile_cons_of_pos (h c (.head _)), takeWhile_all fun d hd => h d (.tail _ hd)]
theorem takeWhile_mem {p : UInt8 → Bool} : ∀ {l : BT} {c : UInt8}, c ∈ l.takeWhile p → p c = true
  | [], c, h => by simp at h
  | d :: t, c, h => by
    by_cases hd : p d = true
    · rw [List.takeWhile_cons_of_pos hd] at h
      rcases List.mem_cons.1 h with rfl | h
      · exact hd
      · exact takeWhile_mem h
    · rw [List.takeWhile_cons_of_neg hd] at h
      simp at h
end Go.Proofs.YtbhkfemebionnaaGreatDoor

namespace Go.Proofs.YtbhkfemebionnaaGreatDoor
open Go.Lib

theorem cutb_one (c : UInt8) : ∀ s : BT, (s.any (fun d => d == c) = true → indexByte s c = ((s.takeWhile (fun d => d != c)).length : Int)) ∧ (s.any (fun d => d == c) = false → indexByte s c = -1)
  | [] => ⟨fun h => by simp at h, fun _ => rfl⟩
  | b :: l => by
    obtain ⟨h1, h2⟩ := cutb_one c l
    unfold indexByte
    by_cases h : b = c
    · subst h
      refine ⟨fun _ => by simp, fun h => by simp at h⟩
    · have hb : (b == c) = false := by simpa using h
      rw [hb, if_neg (by simp)]
      have ht : (b :: l).takeWhile (fun d => d != c) = b :: l.takeWhile (fun d => d != c) := List.takeWhile_cons_of_pos (by simpa using h)
      rw [List.any_cons, hb, Bool.false_or, ht]
      refine ⟨fun h3 => ?_, fun h3 => ?_⟩
      · rw [h1 h3, if_neg (by rw [beq_iff_eq]; omega)]
        simp
      · rw [h2 h3]; rfl
theorem take_tw (p : UInt8 → Bool) (s : BT) : s.take (s.takeWhile p).length = s.takeWhile p := by
  have h : s = s.takeWhile p ++ s.dropWhile p := (List.takeWhile_append_dropWhile (p := p) (l := s)).symm
  generalize s.takeWhile p = a at *
  generalize s.dropWhile p = b at *
  subst h
  simp
theorem drop_tw (p : UInt8 → Bool) (s : BT) : s.drop (s.takeWhile p).length = s.dropWhile p := by
  have h : s = s.takeWhile p ++ s.dropWhile p := (List.takeWhile_append_dropWhile (p := p) (l := s)).symm
  generalize s.takeWhile p = a at *
  generalize s.dropWhile p = b at *
  subst h
  simp

def headB (c : UInt8) (s : BT) : BT := s.takeWhile (fun d => d != c)
def hasB (c : UInt8) (s : BT) : Bool := s.any (fun d => d == c)
def tailB (c : UInt8) (s : BT) : BT := if hasB c s then (s.dropWhile (fun d => d != c)).drop 1 else []
theorem head_none {c : UInt8} {s : BT} (h : hasB c s = false) : headB c s = s ∧ tailB c s = [] := by
  refine ⟨?_, by unfold tailB; rw [h]; rfl⟩
  unfold hasB at h
  rw [List.any_eq_false] at h
  exact takeWhile_all fun x hx => by have := h x hx; simpa using this
theorem head_some {c : UInt8} {s : BT} (h : hasB c s = true) : headB c s = s.take (headB c s).length ∧ tailB c s = s.drop ((headB c s).length + 1) ∧ (headB c s).length + 1 ≤ s.length := by
  have e := take_tw (fun d => d != c) s
  have e2 := drop_tw (fun d => d != c) s
  refine ⟨e.symm, ?_, ?_⟩
  · unfold tailB
    rw [h, if_pos rfl, ← e2, List.drop_drop]
    rfl
  · have h3 : s.dropWhile (fun d => d != c) ≠ [] := by
      intro h4
      have h5 := List.takeWhile_append_dropWhile (p := fun d : UInt8 => d != c) (l := s)
      rw [h4, List.append_nil] at h5
      unfold hasB at h
      obtain ⟨d, hd, hd2⟩ := List.any_eq_true.1 h
      rw [← h5] at hd
      have := takeWhile_mem hd
      simp at this hd2
      exact this hd2
    have h6 := congrArg List.length (List.takeWhile_append_dropWhile (p := fun d : UInt8 => d != c) (l := s))
    have h7 := List.length_pos_iff.2 h3
    rw [List.length_append] at h6
    unfold headB
    omega
theorem byte_idx (c : UInt8) (s : BT) : (hasB c s = true → indexByte s c = ((headB c s).length : Int)) ∧ (hasB c s = false → indexByte s c = -1) := cutb_one c s
end Go.Proofs.YtbhkfemebionnaaGreatDoor

namespace Go.Proofs.YtbhkfemebionnaaGreatDoor
open Go.Lib

def pad0 (s : BT) : BT := (s ++ [48, 48, 48]).take 3

end Go.Proofs.YtbhkfemebionnaaGreatDoor
