/- Lemmas and contracts of functions, joined for the claim: PlainZ, PlainD, PlainT, PlainW, PlainX, PlainY, PlainU, PlainN, PlainO, PlainR, PlainC, PlainS, PlainV, PlainE, PlainK, PlainJ, PlainI. -/
import Derived.Lib.ItoaNum
import Derived.Lib.ParseIntB
import Derived.Lib.AtoiAll
import Derived.Lib.AtoiAllCases
import Derived.Lib.SlTrimSet
import Derived.Lib.Bytealg
namespace Go.Proofs.YtppehllccdjfkaaGreatDoor

def wv (B : Nat) : List Nat → Nat
  | [] => 0
  | x :: t => x + B * wv B t

def Wd (B : Nat) (l : List Nat) : Prop := ∀ x ∈ l, x < B

def wds (B : Nat) (n : Nat) : List Nat := if _h : n = 0 ∨ B ≤ 1 then [] else n % B :: wds B (n / B)
termination_by n
decreasing_by exact Nat.div_lt_self (by omega) (by omega)

theorem wv_append (B : Nat) (l k : List Nat) : wv B (l ++ k) = wv B l + B ^ l.length * wv B k := by
  induction l with
  | nil => simp [wv]
  | cons x t ih => simp only [List.cons_append, wv, ih, List.length_cons, Nat.pow_succ]; rw [Nat.mul_add, ← Nat.mul_assoc, Nat.mul_comm B (B ^ t.length)]; omega
theorem wv_snoc (B : Nat) (l : List Nat) (x : Nat) : wv B (l ++ [x]) = wv B l + B ^ l.length * x := by rw [wv_append]; simp [wv]
theorem wv_take_succ (B : Nat) (l : List Nat) (k : Nat) (h : k < l.length) : wv B (l.take (k + 1)) = wv B (l.take k) + B ^ k * l[k] := by
  rw [List.take_succ_eq_append_getElem h, wv_snoc, List.length_take, Nat.min_eq_left (by omega)]
theorem wv_lt {B : Nat} {l : List Nat} (h : Wd B l) : wv B l < B ^ l.length := by
  induction l with
  | nil => simp [wv]
  | cons x t ih =>
    have h1 := h x (by simp)
    have h2 := ih fun y hy => h y (by simp [hy])
    simp only [wv, List.length_cons, Nat.pow_succ]
    have h3 : B * (wv B t + 1) ≤ B * B ^ t.length := Nat.mul_le_mul_left _ h2
    rw [Nat.mul_comm (B ^ t.length)]
    rw [Nat.mul_add] at h3
    omega
theorem wv_replicate (B k : Nat) : wv B (List.replicate k 0) = 0 := by
  induction k with
  | zero => rfl
  | succ k ih => simp [List.replicate_succ, wv, ih]
theorem wv_set {B : Nat} : ∀ {l : List Nat} {k : Nat} (h : k < l.length) (x : Nat), wv B (l.set k x) + B ^ k * l[k] = wv B l + B ^ k * x
  | y :: t, 0, _, x => by simp [wv]; omega
  | y :: t, k + 1, h, x => by
    have ih := wv_set (B := B) (l := t) (k := k) (by simpa using h) x
    simp only [List.set_cons_succ, wv, List.getElem_cons_succ, Nat.pow_succ]
    have e : ∀ z, B ^ k * B * z = B * (B ^ k * z) := fun z => by rw [Nat.mul_comm (B ^ k) B, Nat.mul_assoc]
    rw [e, e]
    have := congrArg (B * ·) ih
    simp only [Nat.mul_add] at this
    omega
theorem Wd.nil (B : Nat) : Wd B [] := by intro x hx; cases hx
theorem Wd.snoc {B : Nat} {l : List Nat} (h : Wd B l) {x : Nat} (hx : x < B) : Wd B (l ++ [x]) := by
  intro y hy
  rcases List.mem_append.1 hy with hy | hy
  · exact h y hy
  · simp at hy; omega
theorem Wd.set {B : Nat} {l : List Nat} (h : Wd B l) {x : Nat} (hx : x < B) (k : Nat) : Wd B (l.set k x) := by
  intro y hy
  rcases List.mem_or_eq_of_mem_set hy with hy | hy
  · exact h y hy
  · omega
theorem Wd.at {B : Nat} {l : List Nat} (h : Wd B l) {k : Nat} (hk : k < l.length) : l[k] < B := h _ (List.getElem_mem hk)
theorem Wd.take {B : Nat} {l : List Nat} (h : Wd B l) (k : Nat) : Wd B (l.take k) := fun x hx => h x (List.mem_of_mem_take hx)
theorem Wd.drop {B : Nat} {l : List Nat} (h : Wd B l) (k : Nat) : Wd B (l.drop k) := fun x hx => h x (List.mem_of_mem_drop hx)
theorem Wd.replicate {B : Nat} (h : 0 < B) (k : Nat) : Wd B (List.replicate k 0) := by
  intro x hx
  have := List.eq_of_mem_replicate hx
  omega
theorem Wd.append {B : Nat} {l k : List Nat} (h : Wd B l) (h' : Wd B k) : Wd B (l ++ k) := by
  intro x hx
  rcases List.mem_append.1 hx with hx | hx
  · exact h x hx
  · exact h' x hx

theorem wds_zero (B : Nat) : wds B 0 = [] := by rw [wds, dif_pos (.inl rfl)]
theorem wds_pos {B n : Nat} (hB : 2 ≤ B) (h : 0 < n) : wds B n = n % B :: wds B (n / B) := by rw [wds, dif_neg (by omega)]
theorem wds_val {B : Nat} (hB : 2 ≤ B) : ∀ n, wv B (wds B n) = n := by
  intro n
  induction n using Nat.strongRecOn with
  | _ n ih =>
    by_cases h : n = 0
    · subst h; rw [wds_zero]; rfl
    · rw [wds_pos hB (by omega), wv, ih (n / B) (Nat.div_lt_self (by omega) (by omega))]
      exact Nat.mod_add_div n B
theorem wds_wd {B : Nat} (hB : 2 ≤ B) : ∀ n, Wd B (wds B n) := by
  intro n
  induction n using Nat.strongRecOn with
  | _ n ih =>
    by_cases h : n = 0
    · subst h; rw [wds_zero]; exact Wd.nil B
    · rw [wds_pos hB (by omega)]
      intro x hx
      rcases List.mem_cons.1 hx with rfl | hx
      · exact Nat.mod_lt _ (by omega)
      · exact ih (n / B) (Nat.div_lt_self (by omega) (by omega)) x hx

def Top (l : List Nat) : Prop := ∀ x, l.getLast? = some x → x ≠ 0
theorem wds_of : ∀ {B : Nat} {l : List Nat}, 2 ≤ B → Wd B l → Top l → wds B (wv B l) = l
  | B, [], hB, _, _ => wds_zero B
  | B, x :: t, hB, h, ht => by
    have hx := h x (by simp)
    have h' : Wd B t := fun y hy => h y (by simp [hy])
    have ht' : Top t := by
      intro y hy
      refine ht y ?_
      cases t with
      | nil => cases hy
      | cons z u => simpa [List.getLast?_cons_cons] using hy
    have ih := wds_of hB h' ht'
    have hpos : 0 < wv B (x :: t) := by
      cases t with
      | nil =>
        have := ht x (by simp)
        simp [wv]; omega
      | cons z u =>
        have : wv B (z :: u) ≠ 0 := by
          intro h0
          rw [h0, wds_zero] at ih
          cases ih
        have h2 : 0 < B * wv B (z :: u) := Nat.mul_pos (by omega) (by omega)
        simp only [wv] at h2 ⊢; omega
    rw [wds_pos hB hpos]
    simp only [wv]
    rw [Nat.add_mul_mod_self_left, Nat.mod_eq_of_lt hx, Nat.add_mul_div_left _ _ (by omega), Nat.div_eq_of_lt hx, Nat.zero_add, ih]
theorem wds_top {B : Nat} (hB : 2 ≤ B) : ∀ n, Top (wds B n) := by
  intro n
  induction n using Nat.strongRecOn with
  | _ n ih =>
    by_cases h : n = 0
    · subst h; rw [wds_zero]; intro x hx; cases hx
    · rw [wds_pos hB (by omega)]
      intro x hx
      by_cases hd : n / B = 0
      · rw [hd, wds_zero] at hx
        simp at hx
        have : n < B := by rcases Nat.div_eq_zero_iff.1 hd with h | h <;> omega
        rw [Nat.mod_eq_of_lt this] at hx
        omega
      · rw [wds_pos hB (Nat.pos_of_ne_zero hd), List.getLast?_cons_cons, ← wds_pos hB (Nat.pos_of_ne_zero hd)] at hx
        exact ih (n / B) (Nat.div_lt_self (by omega) (by omega)) x hx
theorem wds_inj {B m n : Nat} (hB : 2 ≤ B) (h : wds B m = wds B n) : m = n := by rw [← wds_val hB m, h, wds_val hB]
theorem wds_eq_nil {B n : Nat} (hB : 2 ≤ B) : wds B n = [] ↔ n = 0 := ⟨fun h => by rw [← wds_val hB n, h]; rfl, fun h => by rw [h, wds_zero]⟩
theorem wds_len_pos {B n : Nat} (hB : 2 ≤ B) : 0 < (wds B n).length ↔ 0 < n := by
  rw [List.length_pos_iff, ne_eq, wds_eq_nil hB]; omega
theorem wds_lt {B : Nat} (hB : 2 ≤ B) (n : Nat) : n < B ^ (wds B n).length := by
  have := wv_lt (wds_wd hB n)
  rwa [wds_val hB] at this

theorem wds_ge {B : Nat} (hB : 2 ≤ B) {n : Nat} (h : 0 < n) : B ^ ((wds B n).length - 1) ≤ n := by
  induction n using Nat.strongRecOn with
  | _ n ih =>
    rw [wds_pos hB h]
    by_cases hd : n / B = 0
    · rw [hd, wds_zero]; simp; omega
    · have := ih (n / B) (Nat.div_lt_self (by omega) (by omega)) (Nat.pos_of_ne_zero hd)
      rw [List.length_cons, Nat.add_sub_cancel]
      have hl := (wds_len_pos (B := B) hB).2 (Nat.pos_of_ne_zero hd)
      obtain ⟨k, hk⟩ : ∃ k, (wds B (n / B)).length = k + 1 := ⟨(wds B (n / B)).length - 1, by omega⟩
      rw [hk] at this ⊢
      rw [Nat.add_sub_cancel] at this
      rw [Nat.pow_succ]
      exact Nat.le_trans (Nat.mul_le_mul_right B this) (Nat.div_mul_le_self n B)
theorem wds_len_le {B m n : Nat} (hB : 2 ≤ B) (h : m ≤ n) : (wds B m).length ≤ (wds B n).length := by
  by_cases h0 : m = 0
  · rw [h0, wds_zero]; simp
  · have h1 := wds_ge hB (show 0 < m by omega)
    have h2 := wds_lt hB n
    have h3 : B ^ ((wds B m).length - 1) < B ^ (wds B n).length := by omega
    have := (Nat.pow_lt_pow_iff_right (by omega)).1 h3
    omega

theorem wds_len_of_lt {B n k : Nat} (hB : 2 ≤ B) (h : n < B ^ k) : (wds B n).length ≤ k := by
  by_cases h0 : n = 0
  · rw [h0, wds_zero]; simp
  · have h1 := wds_ge hB (show 0 < n by omega)
    have h3 : B ^ ((wds B n).length - 1) < B ^ k := by omega
    have := (Nat.pow_lt_pow_iff_right (by omega)).1 h3
    omega

theorem wds_cut {B : Nat} (hB : 2 ≤ B) {l : List Nat} (h : Wd B l) (k : Nat) (hk : k < l.length) (hx : l[k] ≠ 0) (hz : ∀ j (hj : j < l.length), k < j → l[j] = 0) : wds B (wv B l) = l.take (k + 1) := by
  have e : wv B l = wv B (l.take (k + 1)) := by
    have hd : l.drop (k + 1) = List.replicate (l.length - (k + 1)) 0 := by
      refine List.ext_getElem (by simp) fun j h1 h2 => ?_
      rw [List.getElem_drop, List.getElem_replicate]
      exact hz _ _ (by omega)
    have e2 : wv B l = wv B (l.take (k + 1) ++ l.drop (k + 1)) := by rw [List.take_append_drop]
    rw [e2, wv_append, hd, wv_replicate, Nat.mul_zero, Nat.add_zero]
  rw [e]
  refine wds_of hB (h.take _) fun x hlast => ?_
  rw [List.take_succ_eq_append_getElem hk] at hlast
  rw [List.getLast?_append] at hlast
  simp at hlast
  rw [← hlast]; exact hx
theorem wds_cut0 {B : Nat} {l : List Nat} (hz : ∀ j (hj : j < l.length), l[j] = 0) : wds B (wv B l) = [] := by
  have hd : l = List.replicate l.length 0 := by
    refine List.ext_getElem (by simp) fun j h1 h2 => ?_
    rw [List.getElem_replicate]
    exact hz _ _
  rw [hd, wv_replicate, wds_zero]

theorem add_step {B a b c k x y : Nat} (h : a + B ^ k * c = b) : (a + B ^ k * ((c + x + y) % B)) + B ^ (k + 1) * ((c + x + y) / B) = b + B ^ k * x + B ^ k * y := by
  have e := Nat.mod_add_div (c + x + y) B
  have : B ^ k * ((c + x + y) % B) + B ^ (k + 1) * ((c + x + y) / B) = B ^ k * (c + x + y) := by
    rw [Nat.pow_succ, Nat.mul_assoc, ← Nat.mul_add, e]
  rw [Nat.add_assoc, this, Nat.mul_add, Nat.mul_add]
  omega
end Go.Proofs.YtppehllccdjfkaaGreatDoor

namespace Go.Proofs.YtppehllccdjfkaaGreatDoor
open Go.Lib

abbrev BT := List UInt8
theorem snoc_ind {α : Type} {P : List α → Prop} (h0 : P []) (hs : ∀ l c, P l → P (l ++ [c])) (l : List α) : P l := by
  have : ∀ r : List α, P r.reverse := by
    intro r
    induction r with
    | nil => exact h0
    | cons c r ih => rw [List.reverse_cons]; exact hs _ _ ih
  have := this l.reverse
  rwa [List.reverse_reverse] at this

def isDg (c : UInt8) : Bool := decide (48 ≤ c.toNat ∧ c.toNat ≤ 57)
theorem isDg_iff {c : UInt8} : isDg c = true ↔ 48 ≤ c.toNat ∧ c.toNat ≤ 57 := by simp [isDg]

def Dgs (l : BT) : Prop := ∀ c ∈ l, isDg c = true
theorem Dgs.append {l k : BT} (h : Dgs l) (h' : Dgs k) : Dgs (l ++ k) := by
  intro c hc
  rcases List.mem_append.1 hc with hc | hc
  · exact h c hc
  · exact h' c hc
theorem Dgs.left {l k : BT} (h : Dgs (l ++ k)) : Dgs l := fun c hc => h c (List.mem_append.2 (.inl hc))
theorem Dgs.right {l k : BT} (h : Dgs (l ++ k)) : Dgs k := fun c hc => h c (List.mem_append.2 (.inr hc))
theorem Dgs.take {l : BT} (h : Dgs l) (k : Nat) : Dgs (l.take k) := fun c hc => h c (List.mem_of_mem_take hc)
theorem Dgs.drop {l : BT} (h : Dgs l) (k : Nat) : Dgs (l.drop k) := fun c hc => h c (List.mem_of_mem_drop hc)

def dg1 (d : Nat) : UInt8 := UInt8.ofNat (48 + d)
theorem dg1_nat {d : Nat} (h : d < 10) : (dg1 d).toNat = 48 + d := by simp [dg1, UInt8.toNat_ofNat]; omega
theorem dg1_dg {d : Nat} (h : d < 10) : isDg (dg1 d) = true := by rw [isDg_iff, dg1_nat h]; omega
theorem dg1_of {c : UInt8} (h : isDg c = true) : c = dg1 (c.toNat - 48) := by
  rw [isDg_iff] at h
  apply UInt8.toNat_inj.1
  rw [dg1_nat (by omega)]; omega

def dval : BT → Nat := List.foldl (fun a c => 10 * a + (c.toNat - 48)) 0
theorem dval_nil : dval [] = 0 := rfl
theorem dval_snoc (l : BT) (c : UInt8) : dval (l ++ [c]) = 10 * dval l + (c.toNat - 48) := by unfold dval; rw [List.foldl_append]; rfl
theorem dval_append (l k : BT) : dval (l ++ k) = dval l * 10 ^ k.length + dval k := by
  refine snoc_ind (P := fun k => dval (l ++ k) = dval l * 10 ^ k.length + dval k) ?_ ?_ k
  · simp [dval_nil]
  · intro k c ih
    rw [← List.append_assoc, dval_snoc, ih, dval_snoc, List.length_append, List.length_singleton, Nat.pow_succ, Nat.mul_add, ← Nat.mul_assoc, Nat.mul_comm 10 (dval l), Nat.mul_assoc, Nat.mul_comm 10 (10 ^ k.length), Nat.add_assoc]
theorem dval_one (c : UInt8) : dval [c] = c.toNat - 48 := by have := dval_snoc [] c; simpa [dval_nil] using this
theorem dval_lt {l : BT} (h : Dgs l) : dval l < 10 ^ l.length := by
  revert h
  refine snoc_ind (P := fun l => Dgs l → dval l < 10 ^ l.length) (fun _ => by simp [dval_nil]) (fun l c ih h => ?_) l
  have h1 := ih h.left
  have h2 := isDg_iff.1 (h c (by simp))
  rw [dval_snoc, List.length_append, List.length_singleton, Nat.pow_succ]
  omega
theorem dval_zeros (k : Nat) : dval (List.replicate k 48) = 0 := by
  induction k with
  | zero => rfl
  | succ k ih => rw [List.replicate_succ', dval_snoc, ih]; rfl

theorem dec_small {n : Nat} (h : n < 10) : decDigits n = [dg1 n] := by rw [decDigits, dif_pos h]; rfl
theorem dec_big {n : Nat} (h : ¬ n < 10) : decDigits n = decDigits (n / 10) ++ [dg1 (n % 10)] := by rw [decDigits, dif_neg h]; rfl
theorem dec_val : ∀ n, dval (decDigits n) = n := by
  intro n
  induction n using Nat.strongRecOn with
  | _ n ih =>
    by_cases h : n < 10
    · rw [dec_small h, dval_one, dg1_nat h]; omega
    · rw [dec_big h, dval_snoc, ih (n / 10) (by omega), dg1_nat (by omega)]; omega
theorem dec_dgs : ∀ n, Dgs (decDigits n) := by
  intro n
  induction n using Nat.strongRecOn with
  | _ n ih =>
    by_cases h : n < 10
    · rw [dec_small h]; intro c hc; simp at hc; subst hc; exact dg1_dg h
    · rw [dec_big h]
      refine (ih (n / 10) (by omega)).append ?_
      intro c hc; simp at hc; subst hc; exact dg1_dg (by omega)
theorem dec_len : ∀ n, (decDigits n).length = nDigits n := by
  intro n
  induction n using Nat.strongRecOn with
  | _ n ih =>
    by_cases h : n < 10
    · rw [dec_small h, nDigits_small h]; rfl
    · rw [dec_big h, nDigits_big h, List.length_append, ih (n / 10) (by omega)]; rfl
theorem dec_pos (n : Nat) : 0 < (decDigits n).length := by rw [dec_len]; exact nDigits_pos n
theorem dec_ne (n : Nat) : decDigits n ≠ [] := by have := dec_pos n; intro h; rw [h] at this; simp at this
theorem dec_zero : decDigits 0 = [48] := by rw [dec_small (by omega)]; rfl

theorem dec_step {v d : Nat} (hv : 0 < v) (hd : d < 10) : decDigits (10 * v + d) = decDigits v ++ [dg1 d] := by
  rw [dec_big (by omega)]
  rw [show (10 * v + d) / 10 = v from by omega, show (10 * v + d) % 10 = d from by omega]
theorem dec_head : ∀ n, 0 < n → ∃ c t, decDigits n = c :: t ∧ c ≠ 48 := by
  intro n
  induction n using Nat.strongRecOn with
  | _ n ih =>
    intro hn
    by_cases h : n < 10
    · refine ⟨dg1 n, [], dec_small h, fun e => ?_⟩
      have := dg1_nat h
      rw [e] at this
      simp at this; omega
    · obtain ⟨c, t, e, hc⟩ := ih (n / 10) (by omega) (by omega)
      exact ⟨c, t ++ [dg1 (n % 10)], by rw [dec_big h, e]; rfl, hc⟩

theorem dec_of {l : BT} (hd : Dgs l) (h : ∃ c t, l = c :: t ∧ (c ≠ 48 ∨ t = [])) : decDigits (dval l) = l := by
  obtain ⟨c, t, rfl, hc⟩ := h
  refine snoc_ind (P := fun t => Dgs (c :: t) → (c ≠ 48 ∨ t = []) → decDigits (dval (c :: t)) = c :: t) ?_ ?_ t hd hc
  · intro hd _
    have h := hd c (by simp)
    have h' := isDg_iff.1 h
    rw [dval_one, dec_small (by omega), ← dg1_of h]
  · intro t x ih hd hc
    have hc : c ≠ 48 := by rcases hc with h | h; exact h; simp at h
    have hd' : Dgs (c :: t) := fun y hy => hd y (by rcases List.mem_cons.1 hy with h | h <;> simp [h])
    have ih := ih hd' (.inl hc)
    have hx := hd x (by simp)
    have hx' := isDg_iff.1 hx
    have hpos : 0 < dval (c :: t) := by
      rw [show c :: t = [c] ++ t from rfl, dval_append, dval_one]
      have h1 := isDg_iff.1 (hd c (by simp))
      have h2 : c.toNat - 48 ≠ 0 := by
        intro h
        apply hc
        apply UInt8.toNat_inj.1
        show c.toNat = 48
        omega
      have := Nat.mul_pos (Nat.pos_of_ne_zero h2) (Nat.pow_pos (n := t.length) (show 0 < 10 by omega))
      omega
    rw [show c :: (t ++ [x]) = (c :: t) ++ [x] from rfl, dval_snoc, dec_step hpos (by omega), ih, ← dg1_of hx]
theorem dec_inj {m n : Nat} (h : decDigits m = decDigits n) : m = n := by rw [← dec_val m, h, dec_val]
theorem dec_len_iff {n k : Nat} (hk : 0 < k) : (decDigits n).length ≤ k ↔ n < 10 ^ k := by
  constructor
  · intro h
    have h1 := dval_lt (dec_dgs n)
    rw [dec_val] at h1
    exact Nat.lt_of_lt_of_le h1 (Nat.pow_le_pow_right (by omega) h)
  · intro h
    by_cases h0 : n = 0
    · subst h0; rw [dec_zero]; simp; omega
    · obtain ⟨c, t, e, hc⟩ := dec_head n (by omega)
      have hd := dec_dgs n
      have hv := dec_val n
      rw [e] at hd hv ⊢
      rw [show c :: t = [c] ++ t from rfl, dval_append, dval_one] at hv
      have h1 := isDg_iff.1 (hd c (by simp))
      have h2 : c.toNat - 48 ≠ 0 := by
        intro h
        apply hc
        apply UInt8.toNat_inj.1
        show c.toNat = 48
        omega
      have h3 : 10 ^ t.length ≤ n := by
        have := Nat.le_mul_of_pos_left (10 ^ t.length) (Nat.pos_of_ne_zero h2)
        omega
      have h4 : 10 ^ t.length < 10 ^ k := by omega
      have := (Nat.pow_lt_pow_iff_right (by omega)).1 h4
      simp; omega

theorem dec_word {k v x : Nat} (hv : 0 < v) (hx : x < 10 ^ k) (hk : 0 < k) : decDigits (v * 10 ^ k + x) = decDigits v ++ (List.replicate (k - (decDigits x).length) 48 ++ decDigits x) := by
  have hl := (dec_len_iff hk).2 hx
  obtain ⟨c, t, e, hc⟩ := dec_head v hv
  have hd : Dgs (decDigits v ++ (List.replicate (k - (decDigits x).length) 48 ++ decDigits x)) := by
    refine (dec_dgs v).append (Dgs.append ?_ (dec_dgs x))
    intro y hy
    rw [List.eq_of_mem_replicate hy]; decide
  have hval : dval (decDigits v ++ (List.replicate (k - (decDigits x).length) 48 ++ decDigits x)) = v * 10 ^ k + x := by
    rw [dval_append, dval_append, dec_val, dec_val, dval_zeros, List.length_append, List.length_replicate, Nat.sub_add_cancel hl]; omega
  rw [← hval]
  refine dec_of hd ⟨c, t ++ (List.replicate (k - (decDigits x).length) 48 ++ decDigits x), by rw [e]; rfl, .inl hc⟩
end Go.Proofs.YtppehllccdjfkaaGreatDoor

namespace Go.Proofs.YtppehllccdjfkaaGreatDoor
open Go.Lib

def bodyT (s : BT) : BT := match s with
  | 45 :: t => t
  | _ => s
def negT (s : BT) : Bool := match s with
  | 45 :: _ => true
  | _ => false
theorem bodyT_other {c : UInt8} {t : BT} (h : c ≠ 45) : bodyT (c :: t) = c :: t := by
  unfold bodyT; split
  · rename_i h'; injection h' with h1 _; exact absurd h1 h
  · rfl
theorem negT_other {c : UInt8} {t : BT} (h : c ≠ 45) : negT (c :: t) = false := by
  unfold negT; split
  · rename_i h'; injection h' with h1 _; exact absurd h1 h
  · rfl
theorem text_split (s : BT) : s = (if negT s then 45 :: bodyT s else bodyT s) := by
  unfold negT bodyT; split <;> simp

def chkI (s : BT) : Int :=
  if bodyT s = [] ∨ ¬ (∀ c ∈ bodyT s, isDg c = true) ∨ ((bodyT s).head? = some 48 ∧ (1 < (bodyT s).length ∨ negT s = true)) then 3
  else if 4096 < (bodyT s).length then 23 else 0

theorem itoa_neg' {z : Int} (h : z < 0) : itoa z = 45 :: decDigits z.natAbs := by unfold itoa; rw [if_pos h]
theorem itoa_pos' {z : Int} (h : 0 ≤ z) : itoa z = decDigits z.natAbs := by unfold itoa; rw [if_neg (by omega), show z.toNat = z.natAbs from by omega]
theorem dec_head45 (n : Nat) : ∃ c t, decDigits n = c :: t ∧ c ≠ 45 := by
  have hd := dec_dgs n
  cases h : decDigits n with
  | nil => exact absurd h (dec_ne n)
  | cons c t =>
    rw [h] at hd
    refine ⟨c, t, rfl, fun e => ?_⟩
    have := isDg_iff.1 (hd c (by simp))
    rw [e] at this
    simp at this
theorem bodyT_itoa (z : Int) : bodyT (itoa z) = decDigits z.natAbs := by
  by_cases h : z < 0
  · rw [itoa_neg' h]; rfl
  · rw [itoa_pos' (by omega)]
    obtain ⟨c, t, e, hc⟩ := dec_head45 z.natAbs
    rw [e, bodyT_other hc]
theorem negT_itoa (z : Int) : negT (itoa z) = decide (z < 0) := by
  by_cases h : z < 0
  · rw [itoa_neg' h, decide_eq_true h]; rfl
  · rw [itoa_pos' (by omega), decide_eq_false h]
    obtain ⟨c, t, e, hc⟩ := dec_head45 z.natAbs
    rw [e, negT_other hc]
theorem itoa_inj {x y : Int} (h : itoa x = itoa y) : x = y := by
  have h1 := congrArg bodyT h
  have h2 := congrArg negT h
  rw [bodyT_itoa, bodyT_itoa] at h1
  rw [negT_itoa, negT_itoa, decide_eq_decide] at h2
  have := dec_inj h1
  omega
theorem itoa_zero : itoa 0 = [48] := by rw [itoa_pos' (by omega)]; exact dec_zero
theorem itoa_eq_zero {z : Int} : itoa z = [48] ↔ z = 0 := ⟨fun h => itoa_inj (h.trans itoa_zero.symm), fun h => by rw [h, itoa_zero]⟩
theorem chkI_itoa (z : Int) : chkI (itoa z) = if 4096 < (decDigits z.natAbs).length then 23 else 0 := by
  unfold chkI
  rw [bodyT_itoa, negT_itoa]
  rw [if_neg]
  rintro (h | h | ⟨h1, h2⟩)
  · exact dec_ne _ h
  · exact h (dec_dgs _)
  · by_cases h0 : z.natAbs = 0
    · rw [h0, dec_zero] at h2
      simp at h2
      omega
    · obtain ⟨c, t, e, hc⟩ := dec_head z.natAbs (by omega)
      rw [e] at h1
      simp at h1
      exact hc h1

theorem chkI_form {s : BT} (h : chkI s ≠ 3) : ∃ z : Int, s = itoa z := by
  unfold chkI at h
  by_cases hc : bodyT s = [] ∨ ¬ (∀ c ∈ bodyT s, isDg c = true) ∨ ((bodyT s).head? = some 48 ∧ (1 < (bodyT s).length ∨ negT s = true))
  · rw [if_pos hc] at h; exact absurd rfl h
  · have h1 : bodyT s ≠ [] := fun e => hc (.inl e)
    have h2 : ∀ c ∈ bodyT s, isDg c = true := Classical.not_not.1 fun e => hc (.inr (.inl e))
    have h3 : ¬ ((bodyT s).head? = some 48 ∧ (1 < (bodyT s).length ∨ negT s = true)) := fun e => hc (.inr (.inr e))
    have hs := text_split s
    obtain ⟨c, t, e⟩ : ∃ c t, bodyT s = c :: t := by
      cases hb : bodyT s with
      | nil => exact absurd hb h1
      | cons c t => exact ⟨c, t, rfl⟩
    rw [e] at h2 h3
    have hdec : decDigits (dval (c :: t)) = c :: t := by
      refine dec_of h2 ⟨c, t, rfl, ?_⟩
      by_cases hc48 : c = 48
      · refine .inr ?_
        cases t with
        | nil => rfl
        | cons d u => exact absurd ⟨by simp [hc48], .inl (by simp)⟩ h3
      · exact .inl hc48
    cases hn : negT s with
    | false =>
      rw [hn, e] at hs
      refine ⟨(dval (c :: t) : Nat), ?_⟩
      rw [itoa_pos' (by omega), Int.natAbs_natCast, hdec]
      simpa using hs
    | true =>
      rw [hn, e] at hs
      have hpos : 0 < dval (c :: t) := by
        refine Nat.pos_of_ne_zero fun h0 => ?_
        rw [h0, dec_zero] at hdec
        injection hdec with h4 h5
        exact h3 ⟨by rw [← h4]; rfl, .inr hn⟩
      refine ⟨-(dval (c :: t) : Nat), ?_⟩
      rw [itoa_neg' (by omega), Int.natAbs_neg, Int.natAbs_natCast, hdec]
      simpa using hs

def Fit (z : Int) : Prop := z.natAbs < 10 ^ 4096
theorem fit_iff {z : Int} : Fit z ↔ ¬ 4096 < (decDigits z.natAbs).length := by
  unfold Fit; rw [← dec_len_iff (k := 4096) (by omega)]; omega
theorem chkI_ok {s : BT} (h : chkI s = 0) : ∃ z : Int, s = itoa z ∧ Fit z := by
  obtain ⟨z, rfl⟩ := chkI_form (s := s) (by omega)
  refine ⟨z, rfl, fit_iff.2 fun h' => ?_⟩
  rw [chkI_itoa, if_pos h'] at h
  omega
theorem chkI_fit {z : Int} (h : Fit z) : chkI (itoa z) = 0 := by rw [chkI_itoa, if_neg (fit_iff.1 h)]
theorem itoa_len (z : Int) : (itoa z).length ≤ (decDigits z.natAbs).length + 1 := by
  by_cases h : z < 0
  · rw [itoa_neg' h]; simp
  · rw [itoa_pos' (by omega)]; omega

def longT (z : Int) : BT × Int := if 4096 < (decDigits z.natAbs).length then ([], 23) else (itoa z, 0)
end Go.Proofs.YtppehllccdjfkaaGreatDoor

namespace Go.Proofs.YtppehllccdjfkaaGreatDoor
open Go.Lib

theorem chunk_step (s : BT) (b : Nat) (e : Nat) (he : e ≤ s.length) : dval (s.take e) = dval (s.take (e - b)) * 10 ^ b + dval ((s.take e).drop (e - b)) := by
  have h1 : s.take e = s.take (e - b) ++ (s.take e).drop (e - b) := by
    have := List.take_append_drop (e - b) (s.take e)
    rw [List.take_take, Nat.min_eq_left (by omega)] at this
    exact this.symm
  have h2 : ((s.take e).drop (e - b)).length = e - (e - b) := by rw [List.length_drop, List.length_take, Nat.min_eq_left he]
  by_cases hb : b ≤ e
  · have h3 : dval (s.take e) = dval (s.take (e - b) ++ (s.take e).drop (e - b)) := by rw [← h1]
    rw [h3, dval_append, h2, show e - (e - b) = b from by omega]
  · rw [show e - b = 0 from by omega]
    simp [dval_nil]
theorem chunk_lt {s : BT} (hs : Dgs s) (b e : Nat) (he : e ≤ s.length) : dval ((s.take e).drop (e - b)) < 10 ^ b := by
  refine Nat.lt_of_lt_of_le (dval_lt ((hs.take e).drop (e - b))) (Nat.pow_le_pow_right (by omega) ?_)
  rw [List.length_drop, List.length_take, Nat.min_eq_left he]; omega

theorem read_step {s : BT} {b e k : Nat} {l : List Nat} (he : e ≤ s.length) (hl : l.length = k) (h : dval s = dval (s.take e) * (10 ^ b) ^ k + wv (10 ^ b) l) :
    dval s = dval (s.take (e - b)) * (10 ^ b) ^ (k + 1) + wv (10 ^ b) (l ++ [dval ((s.take e).drop (e - b))]) := by
  rw [wv_snoc, hl, h, chunk_step s b e he, Nat.pow_succ, Nat.add_mul, Nat.mul_assoc, Nat.mul_comm (10 ^ b) ((10 ^ b) ^ k), Nat.mul_comm (dval ((s.take e).drop (e - b)))]
  omega

theorem drop_wv (B : Nat) (l : List Nat) (i : Nat) (h : i < l.length) : wv B (l.drop i) = l[i] + B * wv B (l.drop (i + 1)) := by
  rw [List.drop_eq_getElem_cons h]; rfl
theorem wds_drop_pos {B n i : Nat} (hB : 2 ≤ B) (h : i < (wds B n).length) : 0 < wv B ((wds B n).drop i) := by
  refine Nat.pos_of_ne_zero fun h0 => ?_
  have h1 := wds_top hB n
  have h2 := (wds_wd hB n).drop i
  have ht : Top ((wds B n).drop i) := by
    intro x hx
    refine h1 x ?_
    rw [List.getLast?_drop, if_neg (by omega)] at hx
    exact hx
  have := wds_of hB h2 ht
  rw [h0, wds_zero] at this
  have := congrArg List.length this
  rw [List.length_drop] at this
  simp at this; omega

theorem write_top {B n i : Nat} (h : i + 1 = (wds B n).length) : wv B ((wds B n).drop i) = (wds B n)[i] := by
  rw [drop_wv B _ i (by omega), List.drop_eq_nil_of_le (by omega)]; simp [wv]

theorem write_next {n i : Nat} (h : i + 1 < (wds (10 ^ 9) n).length) :
    decDigits (wv (10 ^ 9) ((wds (10 ^ 9) n).drop i)) = decDigits (wv (10 ^ 9) ((wds (10 ^ 9) n).drop (i + 1))) ++ (List.replicate (9 - (decDigits (wds (10 ^ 9) n)[i]).length) 48 ++ decDigits (wds (10 ^ 9) n)[i]) := by
  rw [drop_wv _ _ i (by omega), Nat.add_comm, Nat.mul_comm]
  exact dec_word (wds_drop_pos (by omega) h) ((wds_wd (by omega) n).at (by omega)) (by omega)

theorem cmp_lt {B : Nat} {l k : List Nat} (hl : Wd B l) (hlen : l.length = k.length) (i : Nat) (hi : i < l.length) (he : l.drop (i + 1) = k.drop (i + 1)) (hlt : l[i] < k[i]'(hlen ▸ hi)) : wv B l < wv B k := by
  have e1 : wv B l = wv B (l.take i) + B ^ i * wv B (l.drop i) := by
    conv => lhs; rw [← List.take_append_drop i l]
    rw [wv_append, List.length_take, Nat.min_eq_left (by omega)]
  have e2 : wv B k = wv B (k.take i) + B ^ i * wv B (k.drop i) := by
    conv => lhs; rw [← List.take_append_drop i k]
    rw [wv_append, List.length_take, Nat.min_eq_left (by omega)]
  have h1 : wv B (l.take i) < B ^ i := by
    have := wv_lt (hl.take i)
    rwa [List.length_take, Nat.min_eq_left (by omega)] at this
  rw [e1, e2, drop_wv B l i hi, drop_wv B k i (by omega), he]
  have h2 : B ^ i * (l[i] + B * wv B (k.drop (i + 1)) + 1) ≤ B ^ i * (k[i]'(hlen ▸ hi) + B * wv B (k.drop (i + 1))) := Nat.mul_le_mul_left _ (by omega)
  rw [Nat.mul_add] at h2
  omega
theorem cmp_len {B m n : Nat} (hB : 2 ≤ B) (h : (wds B m).length < (wds B n).length) : m < n := by
  refine Nat.lt_of_not_le fun hle => ?_
  have := wds_len_le hB hle
  omega

theorem word_step {B d x Q R V : Nat} (h : V = d * Q + R) : x + B * V = d * ((R * B + x) / d + B * Q) + (R * B + x) % d := by
  have := Nat.mod_add_div (R * B + x) d
  rw [h, Nat.mul_add, Nat.mul_add, ← Nat.mul_assoc d B Q, ← Nat.mul_assoc B d Q, Nat.mul_comm d B, Nat.mul_comm B R]
  omega

theorem wds_at {B : Nat} (hB : 2 ≤ B) : ∀ (n i : Nat), (wds B n).getD i 0 = n / B ^ i % B := by
  intro n
  induction n using Nat.strongRecOn with
  | _ n ih =>
    intro i
    by_cases h : n = 0
    · subst h; rw [wds_zero]; simp
    · rw [wds_pos hB (by omega)]
      cases i with
      | zero => simp
      | succ i =>
        rw [List.getD_cons_succ, ih (n / B) (Nat.div_lt_self (by omega) (by omega)), Nat.pow_succ, Nat.mul_comm, Nat.div_div_eq_div_mul]

theorem guess_ge {B R N k L : Nat} (hB : 2 ≤ B) (hL : 0 < L) (hN : B ^ (L - 1) ≤ N) (hR : R < N * B ^ k * B) (hN2 : N < B ^ L) :
    R / (N * B ^ k) ≤ min ((R / B ^ (L + k) % B * B + R / B ^ (L + k - 1) % B) / (N / B ^ (L - 1) % B)) (B - 1) := by
  have hBk : 0 < B ^ k := Nat.pow_pos (by omega)
  have hBL : 0 < B ^ (L - 1) := Nat.pow_pos (by omega)
  have hNp : 0 < N := Nat.lt_of_lt_of_le hBL hN
  have e1 : B ^ L = B ^ (L - 1) * B := by rw [← Nat.pow_succ]; congr 1; omega
  have e2 : B ^ (L + k) = B ^ (L + k - 1) * B := by rw [← Nat.pow_succ]; congr 1; omega
  have e3 : B ^ (L + k - 1) = B ^ (L - 1) * B ^ k := by rw [← Nat.pow_add]; congr 1; omega
  have hRlt : R < B ^ (L + k) * B := by
    refine Nat.lt_of_lt_of_le hR (Nat.mul_le_mul_right _ ?_)
    rw [Nat.pow_add]
    exact Nat.mul_le_mul_right _ (Nat.le_of_lt hN2)
  have ha : N / B ^ (L - 1) % B = N / B ^ (L - 1) := Nat.mod_eq_of_lt (Nat.div_lt_of_lt_mul (by rw [← e1]; exact hN2))
  have hap : 0 < N / B ^ (L - 1) := Nat.div_pos hN hBL
  have ht : R / B ^ (L + k) % B = R / B ^ (L + k) := Nat.mod_eq_of_lt (Nat.div_lt_of_lt_mul hRlt)
  have hsum : R / B ^ (L + k) % B * B + R / B ^ (L + k - 1) % B = R / B ^ (L + k - 1) := by
    rw [ht, e2, ← Nat.div_div_eq_div_mul, Nat.mul_comm]
    have := Nat.mod_add_div (R / B ^ (L + k - 1)) B
    omega
  rw [hsum, ha]
  refine Nat.le_min.2 ⟨?_, ?_⟩
  · rw [e3, Nat.div_div_eq_div_mul]
    refine Nat.div_le_div_left ?_ (Nat.mul_pos (Nat.mul_pos hBL hBk) hap)
    rw [Nat.mul_assoc, Nat.mul_comm (B ^ k), ← Nat.mul_assoc]
    refine Nat.mul_le_mul_right _ ?_
    rw [Nat.mul_comm]
    exact Nat.div_mul_le_self N _
  · have : R / (N * B ^ k) < B := Nat.div_lt_of_lt_mul hR
    omega

theorem digit_of {R D q : Nat} (hD : 0 < D) (h1 : R / D ≤ q) (h2 : q * D ≤ R) : q = R / D :=
  Nat.le_antisymm ((Nat.le_div_iff_mul_le hD).2 h2) h1
theorem digit_down {R D q : Nat} (hD : 0 < D) (_h1 : R / D ≤ q) (h2 : R < q * D) : 0 < q ∧ R / D ≤ q - 1 := by
  have : R / D < q := (Nat.div_lt_iff_lt_mul hD).2 h2
  exact ⟨Nat.lt_of_le_of_lt (Nat.zero_le _) this, Nat.le_pred_of_lt this⟩

theorem div_step {M N B k R Q : Nat} (h : M = R + N * B ^ (k + 1) * Q) (hq : 0 < N * B ^ k) :
    M = (R - R / (N * B ^ k) * (N * B ^ k)) + N * B ^ k * (Q * B + R / (N * B ^ k)) ∧ R - R / (N * B ^ k) * (N * B ^ k) < N * B ^ k := by
  have h1 := Nat.div_add_mod R (N * B ^ k)
  have h2 := Nat.mod_lt R hq
  have e1 : R / (N * B ^ k) * (N * B ^ k) = N * B ^ k * (R / (N * B ^ k)) := Nat.mul_comm _ _
  have e2 : N * B ^ (k + 1) * Q = N * B ^ k * (Q * B) := by rw [Nat.pow_succ, ← Nat.mul_assoc, Nat.mul_assoc (N * B ^ k), Nat.mul_comm B Q]
  rw [e1, Nat.mul_add, ← e2]
  constructor
  · omega
  · omega

theorem div_scale {m n s Q R : Nat} (hs : 0 < s) (h : m * s = R + n * s * Q) (hR : R < n * s) : Q = m / n ∧ R / s = m % n := by
  have hn : 0 < n := by
    refine Nat.pos_of_ne_zero fun h0 => ?_
    subst h0; simp at hR
  have hQ : Q = m / n := by
    have h1 : m * s / (n * s) = Q := by
      rw [h, Nat.add_mul_div_left _ _ (Nat.mul_pos hn hs), Nat.div_eq_of_lt hR, Nat.zero_add]
    rw [Nat.mul_div_mul_right _ _ hs] at h1
    exact h1.symm
  refine ⟨hQ, ?_⟩
  have h2 : R = m % n * s := by
    have h3 := Nat.div_add_mod m n
    rw [← hQ] at h3
    have h4 : m * s = (n * Q + m % n) * s := by rw [h3]
    rw [Nat.add_mul, Nat.mul_assoc, Nat.mul_comm Q s, ← Nat.mul_assoc] at h4
    omega
  rw [h2, Nat.mul_div_cancel _ hs]

theorem wv_reverse_snoc (B : Nat) (l : List Nat) (q : Nat) : wv B (l ++ [q]).reverse = wv B l.reverse * B + q := by
  rw [List.reverse_append]; simp [wv]; rw [Nat.mul_comm]; omega
end Go.Proofs.YtppehllccdjfkaaGreatDoor

namespace Go.Proofs.YtppehllccdjfkaaGreatDoor
open Go.Lib

theorem takeD (B : Nat) (l : List Nat) (k : Nat) : wv B (l.take (k + 1)) = wv B (l.take k) + B ^ k * l.getD k 0 := by
  by_cases h : k < l.length
  · rw [wv_take_succ B l k h, List.getD_eq_getElem?_getD, List.getElem?_eq_getElem h]; rfl
  · rw [List.take_of_length_le (by omega), List.take_of_length_le (by omega), List.getD_eq_getElem?_getD, List.getElem?_eq_none (by omega)]; simp
theorem getD_lt {B : Nat} {l : List Nat} (hB : 0 < B) (h : Wd B l) (k : Nat) : l.getD k 0 < B := by
  rw [List.getD_eq_getElem?_getD]
  by_cases hk : k < l.length
  · rw [List.getElem?_eq_getElem hk]; exact h.at hk
  · rw [List.getElem?_eq_none (by omega)]; simpa using hB
theorem take_wds {B : Nat} (hB : 2 ≤ B) (n k : Nat) (hk : (wds B n).length ≤ k) : wv B ((wds B n).take k) = n := by
  rw [List.take_of_length_le hk, wds_val hB]

def AddAt (B : Nat) (a b : Nat) (k : Nat) (L : List Nat) (c : Nat) : Prop :=
  L.length = k ∧ Wd B L ∧ c ≤ 1 ∧ wv B L + B ^ k * c = wv B ((wds B a).take k) + wv B ((wds B b).take k)
theorem addAt_zero (B a b : Nat) : AddAt B a b 0 [] 0 := ⟨rfl, Wd.nil B, by omega, by simp [wv]⟩
theorem addAt_step {B a b k : Nat} {L : List Nat} {c x y : Nat} (hB : 2 ≤ B) (h : AddAt B a b k L c) (hx : (wds B a).getD k 0 = x) (hy : (wds B b).getD k 0 = y) :
    AddAt B a b (k + 1) (L ++ [(c + (x + y)) % B]) ((c + (x + y)) / B) ∧ x < B ∧ y < B := by
  subst hx; subst hy
  obtain ⟨h1, h2, h3, h4⟩ := h
  have hx := getD_lt (by omega) (wds_wd hB a) k
  have hy := getD_lt (by omega) (wds_wd hB b) k
  refine ⟨⟨by simp [h1], h2.snoc (Nat.mod_lt _ (by omega)), ?_, ?_⟩, hx, hy⟩
  · have : (c + ((wds B a).getD k 0 + (wds B b).getD k 0)) / B < 2 := Nat.div_lt_of_lt_mul (by omega)
    omega
  · rw [wv_snoc, h1, takeD, takeD, ← Nat.add_assoc c]
    have := add_step (x := (wds B a).getD k 0) (y := (wds B b).getD k 0) h4
    rw [this]; omega
theorem addAt_end {B a b k : Nat} {L : List Nat} {c : Nat} (hB : 2 ≤ B) (h : AddAt B a b k L c) (ha : (wds B a).length < k) (hb : (wds B b).length < k) : c = 0 ∧ wv B L = a + b := by
  obtain ⟨h1, h2, h3, h4⟩ := h
  rw [take_wds hB a k (by omega), take_wds hB b k (by omega)] at h4
  obtain ⟨j, rfl⟩ : ∃ j, k = j + 1 := ⟨k - 1, by omega⟩
  have ha' : a < B ^ j := Nat.lt_of_lt_of_le (wds_lt hB a) (Nat.pow_le_pow_right (by omega) (by omega))
  have hb' : b < B ^ j := Nat.lt_of_lt_of_le (wds_lt hB b) (Nat.pow_le_pow_right (by omega) (by omega))
  have hp : B ^ j * 2 ≤ B ^ (j + 1) := by rw [Nat.pow_succ]; exact Nat.mul_le_mul_left _ hB
  obtain rfl | rfl : c = 0 ∨ c = 1 := by omega
  · simp at h4; exact ⟨rfl, h4⟩
  · simp at h4; omega

def SubAt (B : Nat) (a b : Nat) (k : Nat) (L : List Nat) (c : Nat) : Prop :=
  L.length = k ∧ Wd B L ∧ c ≤ 1 ∧ wv B L + wv B ((wds B b).take k) = wv B ((wds B a).take k) + B ^ k * c
theorem subAt_zero (B a b : Nat) : SubAt B a b 0 [] 0 := ⟨rfl, Wd.nil B, by omega, by simp [wv]⟩
theorem sub_num {P x y c t q r B : Nat} (h : r + B * q = x + B - y - c) (hy : y + c ≤ x + B) (hq : q ≤ 1) (ht : t = 1 - q) : P * r + P * y + P * c = P * x + P * B * t := by
  have h1 : r + y + c + B * q = x + B := by omega
  have h2 := congrArg (P * ·) h1
  simp only [Nat.mul_add] at h2
  subst ht
  obtain rfl | rfl : q = 0 ∨ q = 1 := by omega
  · simp at h2 ⊢; omega
  · simp at h2 ⊢; omega
theorem subAt_step {B a b k : Nat} {L : List Nat} {c x y : Nat} (hB : 2 ≤ B) (h : SubAt B a b k L c) (hx : (wds B a).getD k 0 = x) (hy : (wds B b).getD k 0 = y) :
    SubAt B a b (k + 1) (L ++ [(x + (B - y - c)) % B]) (1 - (x + (B - y - c)) / B) ∧ x < B ∧ y < B ∧ y + c ≤ B ∧ (x + (B - y - c)) / B ≤ 1 := by
  subst hx; subst hy
  obtain ⟨h1, h2, h3, h4⟩ := h
  have hx := getD_lt (by omega) (wds_wd hB a) k
  have hy := getD_lt (by omega) (wds_wd hB b) k
  have hq : ((wds B a).getD k 0 + (B - (wds B b).getD k 0 - c)) / B < 2 := Nat.div_lt_of_lt_mul (by omega)
  refine ⟨⟨by simp [h1], h2.snoc (Nat.mod_lt _ (by omega)), Nat.sub_le _ _, ?_⟩, hx, hy, by omega, Nat.le_of_lt_succ hq⟩
  rw [wv_snoc, h1, takeD, takeD]
  have e := Nat.mod_add_div ((wds B a).getD k 0 + (B - (wds B b).getD k 0 - c)) B
  have := sub_num (P := B ^ k) (x := (wds B a).getD k 0) (y := (wds B b).getD k 0) (c := c) (t := 1 - ((wds B a).getD k 0 + (B - (wds B b).getD k 0 - c)) / B) (B := B) (e.trans (by omega)) (by omega) (Nat.le_of_lt_succ hq) rfl
  rw [Nat.pow_succ]
  omega
theorem subAt_end {B a b k : Nat} {L : List Nat} {c : Nat} (hB : 2 ≤ B) (h : SubAt B a b k L c) (hk : (wds B a).length = k) (hab : b ≤ a) : c = 0 ∧ wv B L = a - b := by
  obtain ⟨h1, h2, h3, h4⟩ := h
  have hbl := wds_len_le hB hab
  rw [take_wds hB a k (by omega), take_wds hB b k (by omega)] at h4
  have hl := wv_lt h2
  rw [h1] at hl
  obtain rfl | rfl : c = 0 ∨ c = 1 := by omega
  · simp at h4; exact ⟨rfl, by omega⟩
  · simp at h4; omega

def MulAt (B : Nat) (V v n i j : Nat) (O : List Nat) (c : Nat) : Prop :=
  Wd B O ∧ c < B ∧ wv B O + B ^ (i + j) * c = V + B ^ i * (v * wv B ((wds B n).take j))
theorem mul_lt {B v y c o : Nat} (hv : v < B) (hy : y < B) (hc : c < B) (ho : o < B) : c + (o + v * y) < B * B := by
  have h1 : v * y ≤ (B - 1) * (B - 1) := Nat.mul_le_mul (by omega) (by omega)
  obtain ⟨k, rfl⟩ : ∃ k, B = k + 1 := ⟨B - 1, by omega⟩
  simp only [Nat.add_sub_cancel] at h1
  have : (k + 1) * (k + 1) = k * k + k + k + 1 := by rw [Nat.mul_add, Nat.add_mul]; omega
  omega
theorem mulAt_zero {B V v n i : Nat} {O : List Nat} (hB : 2 ≤ B) (h : Wd B O) (hv : wv B O = V) : MulAt B V v n i 0 O 0 := ⟨h, by omega, by simp [wv, hv]⟩
theorem mulAt_step {B V v n i j : Nat} {O : List Nat} {c o y : Nat} (hB : 2 ≤ B) (h : MulAt B V v n i j O c) (hk : i + j < O.length) (ho : O[i + j] = o) (hy : (wds B n).getD j 0 = y) (hv : v < B) :
    MulAt B V v n i (j + 1) (O.set (i + j) ((c + (o + v * y)) % B)) ((c + (o + v * y)) / B) ∧ c + (o + v * y) < B * B ∧ y < B ∧ o < B := by
  subst ho; subst hy
  obtain ⟨h1, h2, h3⟩ := h
  have hy := getD_lt (by omega) (wds_wd hB n) j
  have ho := h1.at hk
  have hlt := mul_lt hv hy h2 ho
  refine ⟨⟨h1.set (Nat.mod_lt _ (by omega)) _, Nat.div_lt_of_lt_mul hlt, ?_⟩, hlt, hy, ho⟩
  have hs := wv_set (B := B) hk ((c + (O[i + j] + v * (wds B n).getD j 0)) % B)
  have e := Nat.mod_add_div (c + (O[i + j] + v * (wds B n).getD j 0)) B
  have e2 := congrArg (B ^ (i + j) * ·) e
  simp only [Nat.mul_add] at e2
  rw [takeD, Nat.mul_add v, Nat.mul_add (B ^ i)]
  have e4 : B ^ i * (v * (B ^ j * (wds B n).getD j 0)) = B ^ (i + j) * (v * (wds B n).getD j 0) := by
    rw [Nat.pow_add, Nat.mul_assoc (B ^ i)]; congr 1
    rw [← Nat.mul_assoc, ← Nat.mul_assoc, Nat.mul_comm v]
  have e5 : B ^ (i + (j + 1)) * ((c + (O[i + j] + v * (wds B n).getD j 0)) / B) = B ^ (i + j) * (B * ((c + (O[i + j] + v * (wds B n).getD j 0)) / B)) := by
    rw [← Nat.add_assoc, Nat.pow_succ, Nat.mul_assoc]
  rw [e4, e5]
  omega

theorem mulAt_end {B v n m i j : Nat} {O : List Nat} {c : Nat} (hB : 2 ≤ B) (h : MulAt B (wv B ((wds B m).take i) * n) v n i j O c) (hj : (wds B n).length < j) (hi : i < (wds B m).length) (hv : (wds B m).getD i 0 = v) :
    c = 0 ∧ wv B O = wv B ((wds B m).take (i + 1)) * n := by
  subst hv
  obtain ⟨h1, h2, h3⟩ := h
  rw [take_wds hB n j (by omega)] at h3
  have e : wv B ((wds B m).take (i + 1)) * n = wv B ((wds B m).take i) * n + B ^ i * ((wds B m).getD i 0 * n) := by rw [takeD, Nat.add_mul, Nat.mul_assoc]
  rw [← e] at h3
  have hlt : wv B ((wds B m).take (i + 1)) < B ^ (i + 1) := by
    have := wv_lt ((wds_wd hB m).take (i + 1))
    rwa [List.length_take, Nat.min_eq_left (by omega)] at this
  have hn : n < B ^ (j - 1) := Nat.lt_of_lt_of_le (wds_lt hB n) (Nat.pow_le_pow_right (by omega) (by omega))
  have hprod : wv B ((wds B m).take (i + 1)) * n < B ^ (i + j) := by
    have : B ^ (i + j) = B ^ (i + 1) * B ^ (j - 1) := by rw [← Nat.pow_add]; congr 1; omega
    rw [this]
    exact Nat.mul_lt_mul'' hlt hn
  obtain rfl | hc : c = 0 ∨ 1 ≤ c := by omega
  · simp at h3; exact ⟨rfl, h3⟩
  · have := Nat.mul_le_mul_left (B ^ (i + j)) hc
    omega
end Go.Proofs.YtppehllccdjfkaaGreatDoor

namespace Go.Proofs.YtppehllccdjfkaaGreatDoor
open Go.Lib

end Go.Proofs.YtppehllccdjfkaaGreatDoor

namespace Go.Proofs.YtppehllccdjfkaaGreatDoor
open Go.Lib

def cut10 : BT := [48, 49, 50, 51, 52, 53, 54, 55, 56, 57]
theorem cut10_has (c : UInt8) : cut10.contains c = isDg c := by
  rw [Bool.eq_iff_iff, isDg_iff]
  simp only [cut10, List.contains_iff_mem, List.mem_cons, List.not_mem_nil, or_false]
  constructor
  · rintro (rfl | rfl | rfl | rfl | rfl | rfl | rfl | rfl | rfl | rfl) <;> decide
  · rintro ⟨h1, h2⟩
    have : c.toNat = 48 ∨ c.toNat = 49 ∨ c.toNat = 50 ∨ c.toNat = 51 ∨ c.toNat = 52 ∨ c.toNat = 53 ∨ c.toNat = 54 ∨ c.toNat = 55 ∨ c.toNat = 56 ∨ c.toNat = 57 := by omega
    rcases this with h | h | h | h | h | h | h | h | h | h <;> (simp only [← UInt8.toNat_inj, h]; decide)
theorem dropWhile_keeps {p : UInt8 → Bool} {l : BT} {c : UInt8} (h : c ∈ l) (hp : p c = false) : c ∈ l.dropWhile p := by
  rw [← List.takeWhile_append_dropWhile (p := p) (l := l)] at h
  rcases List.mem_append.1 h with h | h
  · have := List.all_eq_true.1 (List.all_takeWhile (p := p) (l := l)) c h
    rw [hp] at this; cases this
  · exact h
theorem dropWhile_all {p : UInt8 → Bool} : ∀ {l : BT}, (∀ c ∈ l, p c = true) → l.dropWhile p = []
  | [], _ => rfl
  | c :: t, h => by
    rw [List.dropWhile_cons, if_pos (h c (by simp))]
    exact dropWhile_all fun x hx => h x (by simp [hx])
theorem trim_digits {s : BT} : trimS s cut10 = [] ↔ Dgs s := by
  unfold trimS trimLeftS trimRightS
  constructor
  · intro h c hc
    cases hd : isDg c with
    | true => rfl
    | false =>
      have h1 : c ∈ s.reverse.dropWhile (cut10.contains ·) := dropWhile_keeps (by simpa using hc) (by rw [cut10_has]; exact hd)
      have h2 : c ∈ ((s.reverse.dropWhile (cut10.contains ·)).reverse).dropWhile (cut10.contains ·) := dropWhile_keeps (by simpa using h1) (by rw [cut10_has]; exact hd)
      rw [h] at h2; cases h2
  · intro h
    have : s.reverse.dropWhile (cut10.contains ·) = [] := dropWhile_all fun c hc => by
      rw [cut10_has]; exact h c (by simpa using hc)
    rw [this]; rfl

theorem digits_cons {acc : Nat} (c : UInt8) (r : BT) : acc * 10 ^ (c :: r).length + dval (c :: r) = (acc * 10 + (c.toNat - 48)) * 10 ^ r.length + dval r := by
  rw [show c :: r = [c] ++ r from rfl, dval_append, dval_one, List.length_append, List.length_singleton, Nat.add_comm 1, Nat.pow_succ, Nat.add_mul, Nat.mul_comm (10 ^ r.length) 10, ← Nat.mul_assoc, Nat.add_assoc]
theorem parseM_digits : ∀ (l : BT) (acc : Nat), Dgs l → acc * 10 ^ l.length + dval l ≤ 18446744073709551615 → parseUintM (2 ^ 64 - 1) acc l = .ok (acc * 10 ^ l.length + dval l)
  | [], acc, _, _ => by simp [parseUintM, dval_nil]
  | c :: r, acc, hd, hle => by
    have hc := isDg_iff.1 (hd c (by simp))
    rw [digits_cons] at hle ⊢
    have h1 : acc * 10 + (c.toNat - 48) ≤ 18446744073709551615 := by
      have := Nat.le_mul_of_pos_right (acc * 10 + (c.toNat - 48)) (Nat.pow_pos (n := r.length) (show 0 < 10 by omega))
      omega
    unfold parseUintM
    rw [if_pos hc, if_neg (by omega), if_neg (by omega)]
    exact parseM_digits r _ (fun x hx => hd x (by simp [hx])) hle
theorem parseB_digits {l : BT} (hd : Dgs l) (h0 : l ≠ []) (hl : l.length ≤ 18) : parseUintB 64 l = .ok (dval l) := by
  unfold parseUintB
  have h1 := dval_lt hd
  have h2 : 10 ^ l.length ≤ 10 ^ 18 := Nat.pow_le_pow_right (by omega) hl
  rw [if_neg h0, parseM_digits l 0 hd (by omega)]
  simp
theorem parse10_digits : ∀ (l : BT) (acc : Nat), Dgs l → parseUint10 acc l = if acc * 10 ^ l.length + dval l < 18446744073709551616 ∨ l = [] then .ok (acc * 10 ^ l.length + dval l) else .range
  | [], acc, _ => by simp [parseUint10, dval_nil]
  | c :: r, acc, hd => by
    have hc := isDg_iff.1 (hd c (by simp))
    have hp := Nat.pow_pos (n := r.length) (show 0 < 10 by omega)
    have h1 := Nat.le_mul_of_pos_right (acc * 10 + (c.toNat - 48)) hp
    have ih := parse10_digits r (acc * 10 + (c.toNat - 48)) (fun x hx => hd x (by simp [hx]))
    rw [digits_cons]
    unfold parseUint10
    rw [if_pos hc]
    by_cases h2 : 1844674407370955162 ≤ acc
    · rw [if_pos h2, if_neg (by simp; omega)]
    · rw [if_neg h2]
      by_cases h3 : 18446744073709551616 ≤ acc * 10 + (c.toNat - 48)
      · rw [if_pos h3, if_neg (by simp; omega)]
      · rw [if_neg h3, ih]
        cases r with
        | nil => simp [dval_nil]; omega
        | cons x t => simp
theorem parseMag_dec (n : Nat) : parseMag (decDigits n) = if n < 18446744073709551616 then .ok n else .range := by
  unfold parseMag
  rw [if_neg (dec_ne n), parse10_digits _ _ (dec_dgs n), dec_val]
  simp [dec_ne n]

theorem atoi_itoa (z : Int) : atoiAll (itoa z) = if -9223372036854775808 ≤ z ∧ z ≤ 9223372036854775807 then .ok z else .range := by
  by_cases h : z < 0
  · rw [itoa_neg' h]
    unfold atoiAll
    simp only [show (45 : UInt8).toNat = 45 from rfl, or_true, if_true]
    rw [parseMag_dec]
    by_cases h1 : z.natAbs < 18446744073709551616
    · rw [if_pos h1]
      simp only [not_true, false_and, if_false, true_and]
      by_cases h2 : 9223372036854775808 < z.natAbs
      · rw [if_pos h2, if_neg (by omega)]
      · rw [if_neg h2, if_pos (by omega)]
        congr 1; omega
    · rw [if_neg h1, if_neg (by omega)]
  · rw [itoa_pos' (by omega)]
    obtain ⟨c, t, e, hc⟩ := dec_head45 z.natAbs
    have hd := dec_dgs z.natAbs
    rw [e] at hd
    have hcd := isDg_iff.1 (hd c (by simp))
    rw [e]
    unfold atoiAll
    simp only
    rw [if_neg (by omega), ← e, parseMag_dec]
    by_cases h1 : z.natAbs < 18446744073709551616
    · rw [if_pos h1]
      simp only [show ¬ c.toNat = 45 from by omega, not_false_eq_true, true_and, false_and, if_false]
      by_cases h2 : 9223372036854775808 ≤ z.natAbs
      · rw [if_pos h2, if_neg (by omega)]
      · rw [if_neg h2, if_pos (by omega)]
        congr 1; omega
    · rw [if_neg h1, if_neg (by omega)]
end Go.Proofs.YtppehllccdjfkaaGreatDoor

namespace Go.Proofs.YtppehllccdjfkaaGreatDoor

theorem sum_same {x y : Int} (h : decide (x < 0) = decide (y < 0)) : (x + y).natAbs = x.natAbs + y.natAbs ∧ decide (x + y < 0) = decide (x < 0) := by
  rw [decide_eq_decide] at h
  refine ⟨by omega, ?_⟩
  rw [decide_eq_decide]; omega
theorem sum_diff {x y : Int} (h : ¬ decide (x < 0) = decide (y < 0)) (hle : y.natAbs ≤ x.natAbs) : (x + y).natAbs = x.natAbs - y.natAbs ∧ decide (x + y < 0) = (decide (x < 0) && decide (0 < x.natAbs - y.natAbs)) := by
  rw [decide_eq_decide] at h
  refine ⟨by omega, ?_⟩
  rw [Bool.eq_iff_iff, Bool.and_eq_true, decide_eq_true_eq, decide_eq_true_eq, decide_eq_true_eq]; omega
theorem prod_sign (x y : Int) : (x * y).natAbs = x.natAbs * y.natAbs ∧ decide (x * y < 0) = ((decide (x < 0) != decide (y < 0)) && decide (0 < (x * y).natAbs)) := by
  refine ⟨Int.natAbs_mul x y, ?_⟩
  rcases Int.lt_trichotomy x 0 with hx | hx | hx
  · rcases Int.lt_trichotomy y 0 with hy | hy | hy
    · have := Int.mul_pos_of_neg_of_neg hx hy
      rw [decide_eq_false (by omega), decide_eq_true hx, decide_eq_true hy]; rfl
    · subst hy; simp
    · have := Int.mul_neg_of_neg_of_pos hx hy
      rw [decide_eq_true this, decide_eq_true hx, decide_eq_false (by omega), decide_eq_true (by omega)]; rfl
  · subst hx; simp
  · rcases Int.lt_trichotomy y 0 with hy | hy | hy
    · have := Int.mul_neg_of_pos_of_neg hx hy
      rw [decide_eq_true this, decide_eq_false (by omega), decide_eq_true hy, decide_eq_true (by omega)]; rfl
    · subst hy; simp
    · have := Int.mul_pos hx hy
      rw [decide_eq_false (by omega), decide_eq_false (by omega), decide_eq_false (by omega)]; rfl

def FD (x y Q R : Int) : Prop := x = y * Q + R ∧ (0 < y → 0 ≤ R ∧ R < y) ∧ (y < 0 → y < R ∧ R ≤ 0)
theorem fd_unique {x y Q R Q' R' : Int} (hy : y ≠ 0) (h : FD x y Q R) (h' : FD x y Q' R') : Q = Q' ∧ R = R' := by
  obtain ⟨h1, h2, h3⟩ := h
  obtain ⟨h1', h2', h3'⟩ := h'
  have e : y * (Q - Q') = R' - R := by rw [Int.mul_sub]; omega
  have hq : Q - Q' = 0 := by
    by_cases hc : Q - Q' = 0
    · exact hc
    · exfalso
      have hab := congrArg Int.natAbs e
      rw [Int.natAbs_mul] at hab
      have h4 : y.natAbs ≤ y.natAbs * (Q - Q').natAbs := Nat.le_mul_of_pos_right _ (by omega)
      rcases Int.lt_trichotomy y 0 with hy' | hy' | hy'
      · have := h3 hy'; have := h3' hy'; omega
      · exact hy hy'
      · have := h2 hy'; have := h2' hy'; omega
  rw [hq, Int.mul_zero] at e
  omega
theorem fd_spec (x : Int) {y : Int} (_ : y ≠ 0) : FD x y (x.fdiv y) (x.fmod y) := by
  refine ⟨by have := Int.mul_fdiv_add_fmod x y; omega, fun h => ⟨Int.fmod_nonneg_of_pos x h, Int.fmod_lt_of_pos x h⟩, fun h => ?_⟩
  have h1 : x.fmod y = - ((-x).fmod (-y)) := by rw [Int.neg_fmod_neg]; omega
  have h2 := Int.fmod_nonneg_of_pos (-x) (show 0 < -y by omega)
  have h3 := Int.fmod_lt_of_pos (-x) (show 0 < -y by omega)
  omega

theorem fd_exact {x y : Int} (hy : y ≠ 0) (h : decide (x < 0) = decide (y < 0) ∨ x.natAbs % y.natAbs = 0) :
    (x.fdiv y).natAbs = x.natAbs / y.natAbs ∧ decide (x.fdiv y < 0) = ((decide (x < 0) != decide (y < 0)) && decide (0 < x.natAbs / y.natAbs)) ∧
    (x.fmod y).natAbs = x.natAbs % y.natAbs ∧ decide (x.fmod y < 0) = (decide (y < 0) && decide (0 < x.natAbs % y.natAbs)) := by
  have hd := Nat.div_add_mod x.natAbs y.natAbs
  have hr := Nat.mod_lt x.natAbs (show 0 < y.natAbs by omega)
  generalize x.natAbs / y.natAbs = q at *
  generalize x.natAbs % y.natAbs = r at *
  have hd' : (y.natAbs : Int) * q + r = x.natAbs := by exact_mod_cast hd
  by_cases hs : decide (x < 0) = decide (y < 0)
  · have hs' := decide_eq_decide.1 hs
    have hfd : FD x y q (if y < 0 then -(r : Int) else r) := by
      by_cases hy0 : y < 0
      · rw [if_pos hy0]
        rw [show (y.natAbs : Int) = -y by omega, Int.neg_mul] at hd'
        exact ⟨by omega, by omega, by omega⟩
      · rw [if_neg hy0]
        rw [show (y.natAbs : Int) = y by omega] at hd'
        exact ⟨by omega, by omega, by omega⟩
    obtain ⟨e1, e2⟩ := fd_unique hy (fd_spec x hy) hfd
    rw [e1, e2, hs]
    refine ⟨by omega, ?_, ?_, ?_⟩
    · rw [decide_eq_false (by omega)]; simp
    · split <;> omega
    · by_cases hy0 : y < 0
      · rw [if_pos hy0, decide_eq_true hy0, Bool.true_and, decide_eq_decide]; omega
      · rw [if_neg hy0, decide_eq_false hy0, decide_eq_false (by omega)]; rfl
  · have hr0 : r = 0 := by rcases h with h | h; exact absurd h hs; exact h
    subst hr0
    have hs' : ¬ (x < 0 ↔ y < 0) := fun h => hs (decide_eq_decide.2 h)
    have hfd : FD x y (-(q : Int)) 0 := by
      refine ⟨?_, by omega, by omega⟩
      by_cases hy0 : y < 0
      · rw [show (y.natAbs : Int) = -y by omega, Int.neg_mul] at hd'
        rw [Int.mul_neg]; omega
      · rw [show (y.natAbs : Int) = y by omega] at hd'
        rw [Int.mul_neg]; omega
    obtain ⟨e1, e2⟩ := fd_unique hy (fd_spec x hy) hfd
    rw [e1, e2]
    refine ⟨by omega, ?_, rfl, by simp⟩
    have : (decide (x < 0) != decide (y < 0)) = true := by simpa using hs
    rw [this, Bool.true_and, decide_eq_decide]; omega

theorem fd_round {x y : Int} (hy : y ≠ 0) (hs : ¬ decide (x < 0) = decide (y < 0)) (hr0 : 0 < x.natAbs % y.natAbs) :
    (x.fdiv y).natAbs = x.natAbs / y.natAbs + 1 ∧ decide (x.fdiv y < 0) = true ∧
    (x.fmod y).natAbs = y.natAbs - x.natAbs % y.natAbs ∧ 0 < y.natAbs - x.natAbs % y.natAbs ∧ decide (x.fmod y < 0) = decide (y < 0) := by
  have hd := Nat.div_add_mod x.natAbs y.natAbs
  have hr := Nat.mod_lt x.natAbs (show 0 < y.natAbs by omega)
  generalize x.natAbs / y.natAbs = q at *
  generalize x.natAbs % y.natAbs = r at *
  have hd' : (y.natAbs : Int) * q + r = x.natAbs := by exact_mod_cast hd
  have hs' : ¬ (x < 0 ↔ y < 0) := fun h => hs (decide_eq_decide.2 h)
  have hfd : FD x y (-((q : Int) + 1)) (if y < 0 then y + r else y - r) := by
    by_cases hy0 : y < 0
    · rw [if_pos hy0]
      rw [show (y.natAbs : Int) = -y by omega, Int.neg_mul] at hd'
      refine ⟨?_, by omega, by omega⟩
      rw [Int.mul_neg, Int.mul_add]; omega
    · rw [if_neg hy0]
      rw [show (y.natAbs : Int) = y by omega] at hd'
      refine ⟨?_, by omega, by omega⟩
      rw [Int.mul_neg, Int.mul_add]; omega
  obtain ⟨e1, e2⟩ := fd_unique hy (fd_spec x hy) hfd
  rw [e1, e2]
  refine ⟨by omega, decide_eq_true (by omega), ?_, by omega, ?_⟩
  · split <;> omega
  · rw [decide_eq_decide]; split <;> omega
end Go.Proofs.YtppehllccdjfkaaGreatDoor

namespace Go.Proofs.YtppehllccdjfkaaGreatDoor
open Go.Lib

def valI (s : BT) : Int := if negT s then -(dval (bodyT s) : Int) else (dval (bodyT s) : Int)
theorem valI_itoa (z : Int) : valI (itoa z) = z := by
  unfold valI
  rw [negT_itoa, bodyT_itoa, dec_val]
  by_cases h : z < 0
  · rw [decide_eq_true h, if_pos rfl]; omega
  · rw [decide_eq_false h, if_neg (by simp)]; omega

def chk2 (s t : BT) : Int := if chkI s ≠ 0 then chkI s else chkI t
theorem chk2_zero {s t : BT} : chk2 s t = 0 ↔ chkI s = 0 ∧ chkI t = 0 := by
  unfold chk2
  by_cases h : chkI s = 0
  · rw [if_neg (by simpa using h)]; simp [h]
  · rw [if_pos h]; simp [h]
theorem valI_ok {s : BT} (h : chkI s = 0) : s = itoa (valI s) ∧ Fit (valI s) := by
  obtain ⟨z, rfl, hz⟩ := chkI_ok h
  rw [valI_itoa]
  exact ⟨rfl, hz⟩

def opT (op : Int → Int → Int) (s t : BT) : BT × Int := if chk2 s t ≠ 0 then ([], chk2 s t) else longT (op (valI s) (valI t))

def divT (op : Int → Int → Int) (s t : BT) : BT × Int := if chk2 s t ≠ 0 then ([], chk2 s t) else if valI t = 0 then ([], 15) else longT (op (valI s) (valI t))
theorem pow_nine {e k : Nat} (h : e ≤ 9 * k) : (10 : Nat) ^ e ≤ 1000000000 ^ k := by
  rw [show (1000000000 : Nat) = 10 ^ 9 from rfl, ← Nat.pow_mul]
  exact Nat.pow_le_pow_right (by omega) h
theorem nine_len {e k n : Nat} (h : n < 10 ^ e) (h2 : e ≤ 9 * k) : (wds 1000000000 n).length ≤ k :=
  wds_len_of_lt (by omega) (Nat.lt_of_lt_of_le h (pow_nine h2))
theorem fit_len {z : Int} (h : Fit z) : (wds 1000000000 z.natAbs).length ≤ 456 := by
  unfold Fit at h
  exact nine_len (e := 4096) h (by decide)
theorem big_len {z : Int} (h : z.natAbs < 10 ^ 8200) : (wds 1000000000 z.natAbs).length ≤ 1000 := by
  exact nine_len (e := 8200) h (by decide)

def Bounded (op : Int → Int → Int) : Prop := ∀ x y, Fit x → Fit y → (op x y).natAbs < 10 ^ 8200
theorem pow_times {a b c : Nat} (h : a + b ≤ c) : (10 : Nat) ^ a * 10 ^ b ≤ 10 ^ c := by
  rw [← Nat.pow_add]
  exact Nat.pow_le_pow_right (by omega) h
theorem pow_plus {a c : Nat} (h : a + 1 ≤ c) : (10 : Nat) ^ a + 10 ^ a ≤ 10 ^ c := by
  have h1 : (10 : Nat) ^ (a + 1) = 10 * 10 ^ a := by rw [Nat.pow_succ, Nat.mul_comm]
  have h2 : (10 : Nat) ^ (a + 1) ≤ 10 ^ c := Nat.pow_le_pow_right (by omega) h
  generalize (10 : Nat) ^ a = A at *
  omega
theorem pow_big : (10 : Nat) ^ 4096 * 10 ^ 4096 ≤ 10 ^ 8200 := pow_times (a := 4096) (b := 4096) (c := 8200) (by decide)
theorem pow_two_le : (10 : Nat) ^ 4096 + 10 ^ 4096 ≤ 10 ^ 8200 := pow_plus (a := 4096) (c := 8200) (by decide)
theorem bounded_of_le {op : Int → Int → Int} (h : ∀ x y, (op x y).natAbs ≤ x.natAbs + y.natAbs) : Bounded op := by
  intro x y hx hy
  unfold Fit at hx hy
  have h1 := h x y
  have h2 := pow_two_le
  generalize (10 : Nat) ^ 4096 = A at *
  generalize (10 : Nat) ^ 8200 = B at *
  omega
theorem bounded_add : Bounded (fun x y => x + y) := bounded_of_le fun x y => by omega
theorem bounded_sub : Bounded (fun x y => x - y) := bounded_of_le fun x y => by omega
theorem bounded_mul : Bounded (fun x y => x * y) := by
  intro x y hx hy
  show (x * y).natAbs < _
  rw [Int.natAbs_mul]
  exact Nat.lt_of_lt_of_le (Nat.mul_lt_mul'' hx hy) pow_big
theorem bounded_gcd : Bounded (fun x y => (Nat.gcd x.natAbs y.natAbs : Int)) := bounded_of_le fun x y => by
  show Nat.gcd x.natAbs y.natAbs ≤ _
  by_cases h : x.natAbs = 0
  · rw [h, Nat.gcd_zero_left]; omega
  · have := Nat.gcd_le_left (m := x.natAbs) y.natAbs (by omega); omega
theorem natAbs_fdiv_le (x : Int) {y : Int} (hy : y ≠ 0) : (x.fdiv y).natAbs ≤ x.natAbs + y.natAbs := by
  have h := fd_spec x hy
  obtain ⟨h1, h2, h3⟩ := h
  generalize x.fdiv y = q at *
  generalize x.fmod y = r at *
  by_cases hq : q = 0
  · subst hq; simp
  · have hyq : (y * q).natAbs = y.natAbs * q.natAbs := Int.natAbs_mul _ _
    have hy1 : 1 ≤ y.natAbs := by omega
    have hq1 : 1 ≤ q.natAbs := by omega
    have hm : q.natAbs + y.natAbs ≤ y.natAbs * q.natAbs + 1 := by
      obtain ⟨a, ha⟩ : ∃ a, y.natAbs = a + 1 := ⟨y.natAbs - 1, by omega⟩
      obtain ⟨b, hb⟩ : ∃ b, q.natAbs = b + 1 := ⟨q.natAbs - 1, by omega⟩
      rw [ha, hb, Nat.add_mul, Nat.mul_add]
      omega
    have hr : r.natAbs < y.natAbs := by
      rcases Int.lt_trichotomy y 0 with h | h | h
      · have := h3 h; omega
      · exact absurd h hy
      · have := h2 h; omega
    have : (y * q).natAbs ≤ x.natAbs + r.natAbs := by omega
    omega
theorem natAbs_fmod_le (x : Int) {y : Int} (hy : y ≠ 0) : (x.fmod y).natAbs ≤ x.natAbs + y.natAbs := by
  obtain ⟨_, h2, h3⟩ := fd_spec x hy
  generalize x.fmod y = r at *
  rcases Int.lt_trichotomy y 0 with h | h | h
  · have := h3 h; omega
  · exact absurd h hy
  · have := h2 h; omega
end Go.Proofs.YtppehllccdjfkaaGreatDoor

namespace Go.Proofs.YtppehllccdjfkaaGreatDoor
open Go.Lib

def rT (r : Rat) : BT := if r.den = 1 then itoa r.num else itoa r.num ++ 47 :: decDigits r.den

def topT (s : BT) : BT := s.takeWhile (fun c => c != 47)

def slashed (s : BT) : Bool := s.any (fun c => c == 47)

def botT (s : BT) : BT := if slashed s then (s.dropWhile (fun c => c != 47)).drop 1 else [49]

theorem takeWhile_all {p : UInt8 → Bool} : ∀ {l : BT}, (∀ c ∈ l, p c = true) → l.takeWhile p = l
  | [], _ => rfl
  | c :: t, h => by rw [List.takeWhile_cons_of_pos (h c (.head _)), takeWhile_all fun d hd => h d (.tail _ hd)]
theorem takeWhile_mem {p : UInt8 → Bool} : ∀ {l : BT} {c : UInt8}, c ∈ l.takeWhile p → p c = true
  | [], c, h => by simp at h
  | d :: t, c, h => by
    by_cases hd : p d = true
    · rw [List.takeWhile_cons_of_pos hd] at h
      rcases List.mem_cons.1 h with rfl | h
      · exact hd
      · exact takeWhile_mem h
    · rw [List.takeWhile_cons_of_neg hd] at h
      simp at h
theorem dgs_no47 {l : BT} (h : Dgs l) : ∀ c ∈ l, c ≠ 47 := by
  intro c hc e
  have := isDg_iff.1 (h c hc)
  rw [e] at this
  revert this
  decide
theorem itoa_no47 (z : Int) : ∀ c ∈ itoa z, c ≠ 47 := by
  intro c hc
  by_cases h : z < 0
  · rw [itoa_neg' h] at hc
    rcases List.mem_cons.1 hc with rfl | hc
    · decide
    · exact dgs_no47 (dec_dgs _) c hc
  · rw [itoa_pos' (by omega)] at hc
    exact dgs_no47 (dec_dgs _) c hc
theorem top_plain {p : BT} (h : ∀ c ∈ p, c ≠ 47) : topT p = p ∧ slashed p = false ∧ botT p = [49] := by
  have h1 : slashed p = false := by
    unfold slashed
    rw [List.any_eq_false]
    intro c hc; simp [h c hc]
  refine ⟨?_, h1, by unfold botT; rw [h1]; rfl⟩
  unfold topT
  exact takeWhile_all fun c hc => by simp [h c hc]
theorem top_slash {p q : BT} (h : ∀ c ∈ p, c ≠ 47) : topT (p ++ 47 :: q) = p ∧ slashed (p ++ 47 :: q) = true ∧ botT (p ++ 47 :: q) = q := by
  have h1 : slashed (p ++ 47 :: q) = true := by unfold slashed; simp
  refine ⟨?_, h1, ?_⟩
  · unfold topT
    rw [List.takeWhile_append_of_pos (by intro c hc; simp [h c hc])]
    simp
  · unfold botT
    rw [h1, if_pos rfl, List.dropWhile_append_of_pos (by intro c hc; simp [h c hc])]
    simp

theorem split_slash {s : BT} (h : slashed s = true) : s = topT s ++ 47 :: botT s := by
  have e : s = topT s ++ s.dropWhile (fun c => c != 47) := (List.takeWhile_append_dropWhile (p := fun c : UInt8 => c != 47) (l := s)).symm
  unfold botT
  rw [h, if_pos rfl]
  cases hd : s.dropWhile (fun c => c != 47) with
  | nil =>
    exfalso
    rw [hd, List.append_nil] at e
    unfold slashed at h
    obtain ⟨c, hc, hc2⟩ := List.any_eq_true.1 h
    rw [e] at hc
    have := takeWhile_mem hc
    simp at this hc2
    exact this hc2
  | cons c t =>
    have h2 : c = 47 := by
      have := List.head_dropWhile_not (p := fun c : UInt8 => c != 47) (w := by rw [hd]; simp) (l := s)
      simp only [hd, List.head_cons] at this
      simpa using this
    rw [hd, h2] at e
    simpa using e
theorem split_none {s : BT} (h : slashed s = false) : topT s = s := by
  unfold topT
  unfold slashed at h
  rw [List.any_eq_false] at h
  refine takeWhile_all fun c hc => ?_
  have := h c hc
  simpa using this

theorem rT_parts (r : Rat) : topT (rT r) = itoa r.num ∧ botT (rT r) = decDigits r.den ∧ slashed (rT r) = decide (r.den ≠ 1) := by
  unfold rT
  by_cases h : r.den = 1
  · rw [if_pos h, h]
    obtain ⟨h1, h2, h3⟩ := top_plain (itoa_no47 r.num)
    exact ⟨h1, by rw [h3, dec_small (by omega)]; rfl, by rw [h2]; rfl⟩
  · rw [if_neg h]
    obtain ⟨h1, h2, h3⟩ := top_slash (q := decDigits r.den) (itoa_no47 r.num)
    exact ⟨h1, h3, by rw [h2, decide_eq_true h]⟩
theorem nat_itoa (n : Nat) : itoa (n : Int) = decDigits n := by rw [itoa_pos' (by omega), Int.natAbs_natCast]
theorem itoa_one : itoa 1 = [49] := by rw [itoa_pos' (by omega)]; exact dec_small (by omega)
def FitR (r : Rat) : Prop := Fit r.num ∧ Fit (r.den : Int)

def chkR (s : BT) : Int :=
  if chkI (topT s) = 3 ∨ chkI (botT s) = 3 then 3
  else if slashed s = true ∧ (valI (botT s) ≤ 0 ∨ botT s = [49]) then 3
  else if 4096 < (bodyT (topT s)).length ∨ 4096 < (bodyT (botT s)).length then 23
  else if slashed s = true ∧ Nat.gcd (valI (topT s)).natAbs (valI (botT s)).natAbs ≠ 1 then 3 else 0

def valR (s : BT) : Rat := mkRat (valI (topT s)) (valI (botT s)).natAbs

theorem valR_rT (r : Rat) : valR (rT r) = r := by
  obtain ⟨h1, h2, _⟩ := rT_parts r
  unfold valR
  rw [h1, h2, ← nat_itoa, valI_itoa, valI_itoa, Int.natAbs_natCast]
  exact Rat.mkRat_self r
theorem chkR_fit {r : Rat} (h : FitR r) : chkR (rT r) = 0 := by
  obtain ⟨h1, h2, h3⟩ := rT_parts r
  obtain ⟨f1, f2⟩ := h
  unfold chkR
  rw [h1, h2, h3, ← nat_itoa, chkI_fit f1, chkI_fit f2, valI_itoa, valI_itoa, bodyT_itoa, bodyT_itoa]
  have hd := r.den_pos
  rw [if_neg (by decide), if_neg, if_neg, if_neg]
  · rintro ⟨_, hg⟩
    exact hg (by rw [Int.natAbs_natCast]; exact r.reduced)
  · rintro (h | h)
    · exact fit_iff.1 f1 h
    · exact fit_iff.1 f2 h
  · rintro ⟨h4, h5 | h5⟩
    · omega
    · rw [← itoa_one] at h5
      have := itoa_inj h5
      simp at h4
      omega
theorem chkR_ok {s : BT} (h : chkR s = 0) : s = rT (valR s) ∧ FitR (valR s) := by
  unfold chkR at h
  split at h
  · cases h
  rename_i c1
  split at h
  · cases h
  rename_i c2
  split at h
  · cases h
  rename_i c3
  split at h
  · cases h
  rename_i c4
  obtain ⟨x, hx⟩ := chkI_form (s := topT s) (fun e => c1 (.inl e))
  obtain ⟨y, hy⟩ := chkI_form (s := botT s) (fun e => c1 (.inr e))
  rw [hx, hy, valI_itoa, valI_itoa] at c4
  rw [hx, hy, bodyT_itoa, bodyT_itoa] at c3
  have fx : Fit x := fit_iff.2 (fun e => c3 (.inl e))
  have fy : Fit y := fit_iff.2 (fun e => c3 (.inr e))
  by_cases hs : slashed s = true
  · rw [hs] at c2 c4
    rw [hy, valI_itoa] at c2
    have y0 : 0 < y := by
      rcases Int.lt_or_le 0 y with h | h
      · exact h
      · exact absurd ⟨rfl, .inl h⟩ c2
    have y1 : y ≠ 1 := fun e => c2 ⟨rfl, .inr (by rw [e]; exact itoa_one)⟩
    have hg : Nat.gcd x.natAbs y.natAbs = 1 := by
      rcases Nat.decEq (Nat.gcd x.natAbs y.natAbs) 1 with h | h
      · exact absurd ⟨rfl, h⟩ c4
      · exact h
    have hv : valR s = ⟨x, y.natAbs, by omega, hg⟩ := by
      unfold valR
      rw [hx, hy, valI_itoa, valI_itoa]
      exact (Rat.mk_eq_mkRat x y.natAbs (by omega) hg).symm
    refine ⟨?_, ?_⟩
    · rw [hv]
      unfold rT
      have hd : y.natAbs ≠ 1 := by omega
      rw [if_neg hd]
      conv => lhs; rw [split_slash hs, hx, hy, itoa_pos' (z := y) (by omega)]
    · rw [hv]
      exact ⟨fx, by show Fit ((y.natAbs : Nat) : Int); rwa [show ((y.natAbs : Nat) : Int) = y by omega]⟩
  · have hs' : slashed s = false := by simpa using hs
    have hb : botT s = [49] := by unfold botT; rw [hs']; rfl
    have y1 : y = 1 := itoa_inj (hy.symm.trans (hb.trans itoa_one.symm))
    have hv : valR s = (x : Rat) := by
      unfold valR
      rw [hx, hb, valI_itoa, show valI [49] = 1 by decide]
      exact Rat.mkRat_one x
    refine ⟨?_, ?_⟩
    · rw [hv]
      unfold rT
      rw [Rat.den_intCast, if_pos rfl, Rat.num_intCast, ← hx, split_none hs']
    · rw [hv]
      refine ⟨by rw [Rat.num_intCast]; exact fx, ?_⟩
      rw [Rat.den_intCast]
      rw [y1] at fy
      exact fy

theorem rat_div (r : Rat) : Rat.divInt r.num (r.den : Int) = r := by
  rw [Rat.divInt_ofNat]; exact Rat.mkRat_self r
theorem add_parts (a b : Rat) : a + b = Rat.divInt (a.num * b.den + b.num * a.den) ((a.den : Int) * b.den) := by
  conv => lhs; rw [← rat_div a, ← rat_div b]
  exact Rat.divInt_add_divInt _ _ (by have := a.den_pos; omega) (by have := b.den_pos; omega)
theorem sub_parts (a b : Rat) : a - b = Rat.divInt (a.num * b.den - b.num * a.den) ((a.den : Int) * b.den) := by
  conv => lhs; rw [← rat_div a, ← rat_div b]
  exact Rat.divInt_sub_divInt _ _ (by have := a.den_pos; omega) (by have := b.den_pos; omega)
theorem mul_parts (a b : Rat) : a * b = Rat.divInt (a.num * b.num) ((a.den : Int) * b.den) := by
  conv => lhs; rw [← rat_div a, ← rat_div b]
  exact Rat.divInt_mul_divInt _ _
theorem div_parts (a b : Rat) : a / b = Rat.divInt (a.num * b.den) ((a.den : Int) * b.num) := by
  conv => lhs; rw [Rat.div_def, ← rat_div a, ← rat_div b]
  rw [Rat.inv_divInt]
  exact Rat.divInt_mul_divInt _ _

def ordR (a b : Rat) : Int := (a.num * b.den - b.num * a.den).sign
theorem ordR_neg {a b : Rat} : ordR a b < 0 ↔ a < b := by
  unfold ordR
  rw [Int.sign_neg_iff, Rat.lt_iff]
  omega
theorem ordR_pos {a b : Rat} : 0 < ordR a b ↔ b < a := by
  unfold ordR
  rw [Int.sign_pos_iff, Rat.lt_iff]
  omega
theorem ordR_zero {a b : Rat} : ordR a b = 0 ↔ a = b := by
  constructor
  · intro h
    have h1 : ¬ a < b := fun e => by have := ordR_neg.2 e; omega
    have h2 : ¬ b < a := fun e => by have := ordR_pos.2 e; omega
    exact Rat.le_antisymm (Rat.not_lt.1 h2) (Rat.not_lt.1 h1)
  · rintro rfl
    unfold ordR; simp
end Go.Proofs.YtppehllccdjfkaaGreatDoor

namespace Go.Proofs.YtppehllccdjfkaaGreatDoor
open Go.Lib

theorem cutb_one (c : UInt8) : ∀ s : BT, (s.any (fun d => d == c) = true → indexByte s c = ((s.takeWhile (fun d => d != c)).length : Int)) ∧ (s.any (fun d => d == c) = false → indexByte s c = -1)
  | [] => ⟨fun h => by simp at h, fun _ => rfl⟩
  | b :: l => by
    obtain ⟨h1, h2⟩ := cutb_one c l
    unfold indexByte
    by_cases h : b = c
    · subst h
      refine ⟨fun _ => by simp, fun h => by simp at h⟩
    · have hb : (b == c) = false := by simpa using h
      rw [hb, if_neg (by simp)]
      have ht : (b :: l).takeWhile (fun d => d != c) = b :: l.takeWhile (fun d => d != c) := List.takeWhile_cons_of_pos (by simpa using h)
      rw [List.any_cons, hb, Bool.false_or, ht]
      refine ⟨fun h3 => ?_, fun h3 => ?_⟩
      · rw [h1 h3, if_neg (by rw [beq_iff_eq]; omega)]
        simp
      · rw [h2 h3]; rfl
theorem take_tw (p : UInt8 → Bool) (s : BT) : s.take (s.takeWhile p).length = s.takeWhile p := by
  have h : s = s.takeWhile p ++ s.dropWhile p := (List.takeWhile_append_dropWhile (p := p) (l := s)).symm
  generalize s.takeWhile p = a at *
  generalize s.dropWhile p = b at *
  subst h
  simp
theorem drop_tw (p : UInt8 → Bool) (s : BT) : s.drop (s.takeWhile p).length = s.dropWhile p := by
  have h : s = s.takeWhile p ++ s.dropWhile p := (List.takeWhile_append_dropWhile (p := p) (l := s)).symm
  generalize s.takeWhile p = a at *
  generalize s.dropWhile p = b at *
  subst h
  simp

def headB (c : UInt8) (s : BT) : BT := s.takeWhile (fun d => d != c)
def hasB (c : UInt8) (s : BT) : Bool := s.any (fun d => d == c)
def tailB (c : UInt8) (s : BT) : BT := if hasB c s then (s.dropWhile (fun d => d != c)).drop 1 else []
theorem head_none {c : UInt8} {s : BT} (h : hasB c s = false) : headB c s = s ∧ tailB c s = [] := by
  refine ⟨?_, by unfold tailB; rw [h]; rfl⟩
  unfold hasB at h
  rw [List.any_eq_false] at h
  exact takeWhile_all fun x hx => by have := h x hx; simpa using this
theorem head_some {c : UInt8} {s : BT} (h : hasB c s = true) : headB c s = s.take (headB c s).length ∧ tailB c s = s.drop ((headB c s).length + 1) ∧ (headB c s).length + 1 ≤ s.length := by
  have e := take_tw (fun d => d != c) s
  have e2 := drop_tw (fun d => d != c) s
  refine ⟨e.symm, ?_, ?_⟩
  · unfold tailB
    rw [h, if_pos rfl, ← e2, List.drop_drop]
    rfl
  · have h3 : s.dropWhile (fun d => d != c) ≠ [] := by
      intro h4
      have h5 := List.takeWhile_append_dropWhile (p := fun d : UInt8 => d != c) (l := s)
      rw [h4, List.append_nil] at h5
      unfold hasB at h
      obtain ⟨d, hd, hd2⟩ := List.any_eq_true.1 h
      rw [← h5] at hd
      have := takeWhile_mem hd
      simp at this hd2
      exact this hd2
    have h6 := congrArg List.length (List.takeWhile_append_dropWhile (p := fun d : UInt8 => d != c) (l := s))
    have h7 := List.length_pos_iff.2 h3
    rw [List.length_append] at h6
    unfold headB
    omega
theorem byte_idx (c : UInt8) (s : BT) : (hasB c s = true → indexByte s c = ((headB c s).length : Int)) ∧ (hasB c s = false → indexByte s c = -1) := cutb_one c s
theorem head_slash (s : BT) : headB 47 s = topT s ∧ hasB 47 s = slashed s ∧ (slashed s = true → tailB 47 s = botT s) := by
  refine ⟨rfl, rfl, fun h => ?_⟩
  unfold tailB botT
  rw [show hasB 47 s = slashed s from rfl, h, if_pos rfl, if_pos rfl]
end Go.Proofs.YtppehllccdjfkaaGreatDoor

namespace Go.Proofs.YtppehllccdjfkaaGreatDoor
open Go.Lib

def wholeT (s : BT) : BT := s.takeWhile (fun c => c != 46)
def restT (s : BT) : BT := if s.any (fun c => c == 46) then (s.dropWhile (fun c => c != 46)).drop 1 else [48, 48, 48]

end Go.Proofs.YtppehllccdjfkaaGreatDoor

namespace Go.Proofs.YtppehllccdjfkaaGreatDoor
open Go.Lib

def redG (x y : Int) : Int := if y < 0 then -(Nat.gcd x.natAbs y.natAbs : Int) else (Nat.gcd x.natAbs y.natAbs : Int)
theorem gcd_ne {x y : Int} (hy : y ≠ 0) : 0 < Nat.gcd x.natAbs y.natAbs := Nat.gcd_pos_of_pos_right _ (by omega)
theorem red_parts {x y : Int} (hy : y ≠ 0) : x.fdiv (redG x y) = (Rat.divInt x y).num ∧ y.fdiv (redG x y) = ((Rat.divInt x y).den : Int) := by
  rw [Rat.num_divInt, Rat.den_divInt, if_neg hy]
  have hG := gcd_ne (x := x) hy
  have e : y.gcd x = Nat.gcd x.natAbs y.natAbs := by rw [Int.gcd_comm]; rfl
  have d1 : ((Nat.gcd x.natAbs y.natAbs : Nat) : Int) ∣ x := Int.ofNat_dvd_left.2 (Nat.gcd_dvd_left _ _)
  have d2 : ((Nat.gcd x.natAbs y.natAbs : Nat) : Int) ∣ y := Int.ofNat_dvd_left.2 (Nat.gcd_dvd_right _ _)
  rw [e]
  unfold redG
  generalize Nat.gcd x.natAbs y.natAbs = G at *
  obtain ⟨a, rfl⟩ := d1
  obtain ⟨b, rfl⟩ := d2
  have G0 : (G : Int) ≠ 0 := by omega
  have hb : b ≠ 0 := by rintro rfl; simp at hy
  have na : ((G : Int) * b).natAbs = G * b.natAbs := by rw [Int.natAbs_mul, Int.natAbs_natCast]
  by_cases h : (G : Int) * b < 0
  · rw [if_pos h, Int.sign_eq_neg_one_of_neg h]
    have hb0 : b < 0 := by
      rcases Int.lt_or_le b 0 with h1 | h1
      · exact h1
      · exact absurd h (by have := Int.mul_nonneg (show (0 : Int) ≤ G by omega) h1; omega)
    have e1 : ∀ z : Int, ((G : Int) * z).fdiv (-(G : Int)) = -z := fun z => by
      rw [show (G : Int) * z = -(G : Int) * (-z) by rw [Int.neg_mul_neg]]
      exact Int.mul_fdiv_cancel_left _ (by omega)
    refine ⟨?_, ?_⟩
    · rw [e1, show (-1 : Int) * ((G : Int) * a) = (G : Int) * (-a) by rw [Int.mul_neg, Int.neg_mul, Int.one_mul], Int.mul_ediv_cancel_left _ G0]
    · rw [e1, na, Nat.mul_div_cancel_left _ hG]; omega
  · rw [if_neg h]
    have hb0 : 0 < b := by
      rcases Int.lt_or_le 0 b with h1 | h1
      · exact h1
      · exact absurd (show (G : Int) * b < 0 from Int.mul_neg_of_pos_of_neg (by omega) (by omega)) h
    have hp : 0 < (G : Int) * b := Int.mul_pos (by omega) hb0
    rw [Int.sign_eq_one_of_pos hp, Int.one_mul]
    refine ⟨?_, ?_⟩
    · rw [Int.mul_fdiv_cancel_left _ G0, Int.mul_ediv_cancel_left _ G0]
    · rw [Int.mul_fdiv_cancel_left _ G0, na, Nat.mul_div_cancel_left _ hG]; omega
theorem red_le {x y : Int} (hy : y ≠ 0) : (Rat.divInt x y).num.natAbs ≤ x.natAbs ∧ (Rat.divInt x y).den ≤ y.natAbs := by
  rw [Rat.num_divInt, Rat.den_divInt, if_neg hy]
  refine ⟨?_, Nat.div_le_self _ _⟩
  refine Nat.le_trans (Int.natAbs_ediv_le_natAbs _ _) ?_
  rw [Int.natAbs_mul]
  rcases Int.lt_trichotomy y 0 with h | h | h
  · rw [Int.sign_eq_neg_one_of_neg h]; simp
  · exact absurd h hy
  · rw [Int.sign_eq_one_of_pos h]; simp
theorem fit_le {a b : Int} (h : Fit a) (hb : b.natAbs ≤ a.natAbs) : Fit b := by
  unfold Fit at *
  exact Nat.lt_of_le_of_lt hb h
theorem red_fit {x y : Int} (hx : Fit x) (hy : Fit y) (h0 : y ≠ 0) : FitR (Rat.divInt x y) :=
  ⟨fit_le hx (red_le h0).1, fit_le hy (by rw [Int.natAbs_natCast]; exact (red_le h0).2)⟩

def SzR (k : Nat) (r : Rat) : Prop := r.num.natAbs < 10 ^ k ∧ r.den < 10 ^ k
theorem SzR.up {k m : Nat} {r : Rat} (h : SzR k r) (hk : k ≤ m) : SzR m r :=
  ⟨Nat.lt_of_lt_of_le h.1 (Nat.pow_le_pow_right (by omega) hk), Nat.lt_of_lt_of_le h.2 (Nat.pow_le_pow_right (by omega) hk)⟩
theorem pow_both {a b k m : Nat} (ha : a < 10 ^ k) (hb : b < 10 ^ m) : a * b < 10 ^ (k + m) := by
  rw [Nat.pow_add]; exact Nat.mul_lt_mul'' ha hb
theorem SzR.red {k : Nat} {x y : Int} (hy : y ≠ 0) (h1 : x.natAbs < 10 ^ k) (h2 : y.natAbs < 10 ^ k) : SzR k (Rat.divInt x y) :=
  ⟨Nat.lt_of_le_of_lt (red_le hy).1 h1, Nat.lt_of_le_of_lt (red_le hy).2 h2⟩
theorem den_mul_ne (a b : Rat) : ((a.den : Int) * b.den) ≠ 0 := Int.mul_ne_zero (by have := a.den_pos; omega) (by have := b.den_pos; omega)

theorem SzR.prods {k m : Nat} {a b : Rat} (ha : SzR k a) (hb : SzR m b) :
    (a.num * b.den).natAbs < 10 ^ (k + m) ∧ (b.num * a.den).natAbs < 10 ^ (k + m) ∧ ((a.den : Int) * b.den).natAbs < 10 ^ (k + m) ∧ (a.num * b.num).natAbs < 10 ^ (k + m) ∧
    (a.num * b.den + b.num * a.den).natAbs < 10 ^ (k + m + 1) ∧ (a.num * b.den - b.num * a.den).natAbs < 10 ^ (k + m + 1) ∧ ((a.den : Int) * b.num).natAbs < 10 ^ (k + m) := by
  have h1 : (a.num * b.den).natAbs < 10 ^ (k + m) := by rw [Int.natAbs_mul, Int.natAbs_natCast]; exact pow_both ha.1 hb.2
  have h2 : (b.num * a.den).natAbs < 10 ^ (k + m) := by rw [Int.natAbs_mul, Int.natAbs_natCast, Nat.add_comm]; exact pow_both hb.1 ha.2
  have h3 : ((a.den : Int) * b.den).natAbs < 10 ^ (k + m) := by rw [Int.natAbs_mul, Int.natAbs_natCast, Int.natAbs_natCast]; exact pow_both ha.2 hb.2
  have h4 : (a.num * b.num).natAbs < 10 ^ (k + m) := by rw [Int.natAbs_mul]; exact pow_both ha.1 hb.1
  have h7 : ((a.den : Int) * b.num).natAbs < 10 ^ (k + m) := by rw [Int.natAbs_mul, Int.natAbs_natCast]; exact pow_both ha.2 hb.1
  have hp : (10 : Nat) ^ (k + m + 1) = 10 * 10 ^ (k + m) := by rw [Nat.pow_succ, Nat.mul_comm]
  refine ⟨h1, h2, h3, h4, ?_, ?_, h7⟩
  all_goals
    rw [hp]
    generalize (10 : Nat) ^ (k + m) = P at *
    omega
theorem SzR.add {k m : Nat} {a b : Rat} (ha : SzR k a) (hb : SzR m b) : SzR (k + m + 1) (a + b) := by
  obtain ⟨_, _, h3, _, h5, _, _⟩ := SzR.prods ha hb
  rw [add_parts]
  exact SzR.red (den_mul_ne a b) h5 (Nat.lt_of_lt_of_le h3 (Nat.pow_le_pow_right (by omega) (by omega)))
theorem SzR.sub {k m : Nat} {a b : Rat} (ha : SzR k a) (hb : SzR m b) : SzR (k + m + 1) (a - b) := by
  obtain ⟨_, _, h3, _, _, h6, _⟩ := SzR.prods ha hb
  rw [sub_parts]
  exact SzR.red (den_mul_ne a b) h6 (Nat.lt_of_lt_of_le h3 (Nat.pow_le_pow_right (by omega) (by omega)))
theorem SzR.mul {k m : Nat} {a b : Rat} (ha : SzR k a) (hb : SzR m b) : SzR (k + m) (a * b) := by
  obtain ⟨_, _, h3, h4, _, _, _⟩ := SzR.prods ha hb
  rw [mul_parts]
  exact SzR.red (den_mul_ne a b) h4 h3
theorem num_ne {b : Rat} (hb : b ≠ 0) : b.num ≠ 0 := fun h => hb (Rat.num_eq_zero.1 h)
theorem SzR.div {k m : Nat} {a b : Rat} (ha : SzR k a) (hb : SzR m b) (h0 : b ≠ 0) : SzR (k + m) (a / b) := by
  obtain ⟨h1, _, _, _, _, _, h7⟩ := SzR.prods ha hb
  rw [div_parts]
  exact SzR.red (Int.mul_ne_zero (by have := a.den_pos; omega) (num_ne h0)) h1 h7
theorem SzR.fit {k : Nat} {r : Rat} (h : SzR k r) (hk : k ≤ 4096) : FitR r := by
  unfold FitR Fit
  have h2 := h.up (m := 4096) hk
  exact ⟨h2.1, by rw [Int.natAbs_natCast]; exact h2.2⟩
theorem SzR.int {k : Nat} {z : Int} (h : z.natAbs < 10 ^ k) (hk : 0 < k) : SzR k (z : Rat) := by
  refine ⟨by rw [Rat.num_intCast]; exact h, ?_⟩
  rw [Rat.den_intCast]
  exact Nat.one_lt_pow (by omega) (by omega)
theorem SzR.neg {k : Nat} {r : Rat} (h : SzR k r) : SzR k (-r) := by
  refine ⟨by rw [Rat.neg_num, Int.natAbs_neg]; exact h.1, by rw [Rat.neg_den]; exact h.2⟩

theorem floor_fdiv (r : Rat) : r.num.fdiv (r.den : Int) = r.floor := by
  rw [Rat.floor_def, Int.fdiv_eq_ediv_of_nonneg _ (by omega)]
theorem cast_le {a b : Int} : (a : Rat) ≤ (b : Rat) ↔ a ≤ b := Rat.intCast_le_intCast
theorem cast_lt {a b : Int} : (a : Rat) < (b : Rat) ↔ a < b := Rat.intCast_lt_intCast

theorem floor_unique {r : Rat} {z : Int} (h1 : (z : Rat) ≤ r) (h2 : r < (z : Rat) + 1) : r.floor = z := by
  have a1 := Rat.floor_le r
  have a2 := Rat.lt_floor_add_one r
  have b1 : z < r.floor + 1 := cast_lt.1 (by rw [Rat.intCast_add] at *; grind)
  have b2 : r.floor < z + 1 := cast_lt.1 (by rw [Rat.intCast_add]; have : ((1 : Int) : Rat) = 1 := rfl; grind)
  omega
end Go.Proofs.YtppehllccdjfkaaGreatDoor

namespace Go.Proofs.YtppehllccdjfkaaGreatDoor
open Go.Lib

def halfR : Rat := mkRat 1 2
theorem floor_bd (r : Rat) : (r.floor : Rat) ≤ r ∧ r < (r.floor : Rat) + 1 := by
  have a2 := Rat.lt_floor_add_one r
  refine ⟨Rat.floor_le r, ?_⟩
  rw [Rat.intCast_add] at a2
  exact a2

def mixR (a b w : Rat) : Rat := a + (b - a) * w
theorem half_two : halfR * 2 = 1 := by decide +kernel

theorem near_cases (r : Rat) : ((r + halfR).floor = r.floor ∧ 2 * r < 2 * (r.floor : Rat) + 1) ∨ ((r + halfR).floor = r.floor + 1 ∧ 2 * (r.floor : Rat) + 1 ≤ 2 * r) := by
  obtain ⟨f1, f2⟩ := floor_bd r
  have h2 := half_two
  by_cases h : 2 * r < 2 * (r.floor : Rat) + 1
  · refine .inl ⟨floor_unique ?_ ?_, h⟩ <;> grind
  · refine .inr ⟨floor_unique ?_ ?_, Rat.not_lt.1 h⟩
    · rw [Rat.intCast_add]; have : ((1 : Int) : Rat) = 1 := rfl; grind
    · rw [Rat.intCast_add]; have : ((1 : Int) : Rat) = 1 := rfl; grind
theorem den_pos (r : Rat) : (0 : Rat) < ((r.den : Int) : Rat) := cast_lt.2 (show (0 : Int) < (r.den : Int) by have := r.den_pos; omega)
theorem num_eq (r : Rat) : r * ((r.den : Int) : Rat) = (r.num : Rat) := by
  have h := rat_div r
  rw [Rat.divInt_eq_div, Rat.div_def] at h
  have hd : ((r.den : Int) : Rat) ≠ 0 := by
    have := den_pos r
    grind
  have : r * ((r.den : Int) : Rat) = (r.num : Rat) * ((r.den : Int) : Rat)⁻¹ * ((r.den : Int) : Rat) := by rw [h]
  rw [this, Rat.mul_assoc, Rat.inv_mul_cancel _ hd, Rat.mul_one]

theorem rest_lt (r : Rat) : (r.num.fmod (r.den : Int) < (r.den : Int) - r.num.fmod (r.den : Int)) ↔ 2 * r < 2 * (r.floor : Rat) + 1 := by
  have h1 := (fd_spec r.num (y := (r.den : Int)) (by have := r.den_pos; omega)).1
  rw [floor_fdiv] at h1
  have hd := den_pos r
  have hn := num_eq r
  generalize r.num.fmod (r.den : Int) = m at *
  have hc : m < (r.den : Int) - m ↔ 2 * r.num < 2 * ((r.den : Int) * r.floor) + (r.den : Int) := by omega
  rw [hc, ← cast_lt]
  have e : ((2 * r.num : Int) : Rat) = 2 * (r.num : Rat) := by rw [Rat.intCast_mul]; rfl
  have e2 : ((2 * ((r.den : Int) * r.floor) + (r.den : Int) : Int) : Rat) = 2 * (((r.den : Int) : Rat) * (r.floor : Rat)) + ((r.den : Int) : Rat) := by
    rw [Rat.intCast_add, Rat.intCast_mul, Rat.intCast_mul]; rfl
  rw [e, e2, ← hn]
  generalize ((r.den : Int) : Rat) = d at *
  constructor
  · intro h
    by_cases h2 : 2 * r < 2 * (r.floor : Rat) + 1
    · exact h2
    · have := Rat.mul_le_mul_of_nonneg_right (Rat.not_lt.1 h2) (show (0 : Rat) ≤ d by grind)
      grind
  · intro h
    have := Rat.mul_lt_mul_of_pos_right h hd
    grind
theorem near_rest (r : Rat) : (r.num.fmod (r.den : Int) < (r.den : Int) - r.num.fmod (r.den : Int) ∧ (r + halfR).floor = r.floor) ∨ (¬ r.num.fmod (r.den : Int) < (r.den : Int) - r.num.fmod (r.den : Int) ∧ (r + halfR).floor = r.floor + 1) := by
  rcases near_cases r with ⟨e, h⟩ | ⟨e, h⟩
  · exact .inl ⟨(rest_lt r).2 h, e⟩
  · exact .inr ⟨fun h2 => absurd ((rest_lt r).1 h2) (Rat.not_lt.2 h), e⟩
end Go.Proofs.YtppehllccdjfkaaGreatDoor

namespace Go.Proofs.YtppehllccdjfkaaGreatDoor

abbrev PT := Int × Int
def isLev (v : Int) : Prop := 0 ≤ v ∧ v ≤ 65535
instance (v : Int) : Decidable (isLev v) := by unfold isLev; infer_instance

def scanC : Int → List PT → Int
  | _, [] => 0
  | p, q :: t => if ¬ (isLev q.1 ∧ isLev q.2) then 2 else if q.1 ≤ p then 9 else scanC q.1 t
def firstX (c : List PT) : Int := (c.headD (0, 0)).1
def lastX (c : List PT) : Int := (c.getLastD (0, 0)).1
def firstY (c : List PT) : Int := (c.headD (0, 0)).2
def lastY (c : List PT) : Int := (c.getLastD (0, 0)).2

def chkC (c : List PT) : Int :=
  if c.length < 2 then 14 else if 16 < c.length then 5 else if scanC (-1) c ≠ 0 then scanC (-1) c else if firstX c ≠ 0 ∨ lastX c ≠ 65535 then 14 else 0

def UpC : Int → List PT → Prop
  | _, [] => True
  | p, q :: t => (isLev q.1 ∧ isLev q.2) ∧ p < q.1 ∧ UpC q.1 t
theorem scan_up : ∀ {p : Int} {c : List PT}, scanC p c = 0 ↔ UpC p c
  | _, [] => by simp [scanC, UpC]
  | p, q :: t => by
    unfold scanC UpC
    by_cases h1 : isLev q.1 ∧ isLev q.2
    · rw [if_neg (by simpa using h1)]
      by_cases h2 : q.1 ≤ p
      · rw [if_pos h2]
        refine ⟨(fun h => by cases h), fun h => by omega⟩
      · rw [if_neg h2, scan_up]
        exact ⟨fun h => ⟨h1, by omega, h⟩, fun h => h.2.2⟩
    · rw [if_pos h1]
      exact ⟨(fun h => by cases h), fun h => absurd h.1 h1⟩

structure OkC (c : List PT) : Prop where
  two : 2 ≤ c.length
  few : c.length ≤ 16
  up : UpC (-1) c
  first : firstX c = 0
  last : lastX c = 65535
theorem chkC_ok {c : List PT} : chkC c = 0 ↔ OkC c := by
  unfold chkC
  by_cases h1 : c.length < 2
  · rw [if_pos h1]; exact ⟨(fun h => by cases h), fun h => by have := h.two; omega⟩
  rw [if_neg h1]
  by_cases h2 : 16 < c.length
  · rw [if_pos h2]; exact ⟨(fun h => by cases h), fun h => by have := h.few; omega⟩
  rw [if_neg h2]
  by_cases h3 : scanC (-1) c = 0
  · rw [if_neg (by simpa using h3)]
    by_cases h4 : firstX c ≠ 0 ∨ lastX c ≠ 65535
    · rw [if_pos h4]
      refine ⟨(fun h => by cases h), fun h => ?_⟩
      rcases h4 with h4 | h4
      · exact absurd h.first h4
      · exact absurd h.last h4
    · rw [if_neg h4]
      exact ⟨fun _ => ⟨by omega, by omega, scan_up.1 h3, by omega, by omega⟩, fun _ => rfl⟩
  · rw [if_pos h3]
    exact ⟨fun h => absurd h h3, fun h => absurd (scan_up.2 h.up) h3⟩

def segR (a b : PT) (r : Rat) : Rat := mixR (a.2 : Rat) (b.2 : Rat) ((r - (a.1 : Rat)) / ((b.1 - a.1 : Int) : Rat))

def valC : List PT → Rat → Rat
  | a :: b :: t, r => if r ≤ (b.1 : Rat) then segR a b r else valC (b :: t) r
  | [a], _ => (a.2 : Rat)
  | [], _ => 0

theorem cast_pos {z : Int} (h : 0 < z) : (0 : Rat) < (z : Rat) := by
  have := cast_lt.2 h
  exact this
theorem segR_eq {a b : PT} {r : Rat} (h : a.1 < b.1) : (segR a b r - (a.2 : Rat)) * ((b.1 : Rat) - (a.1 : Rat)) = ((b.2 : Rat) - (a.2 : Rat)) * (r - (a.1 : Rat)) := by
  unfold segR mixR
  rw [Rat.intCast_sub]
  have hd : ((b.1 : Rat) - (a.1 : Rat)) ≠ 0 := by
    have := cast_lt.2 h
    grind
  generalize (b.1 : Rat) - (a.1 : Rat) = d at *
  generalize (r - (a.1 : Rat)) = s at *
  have : s / d * d = s := by rw [Rat.div_def, Rat.mul_assoc, Rat.inv_mul_cancel _ hd, Rat.mul_one]
  grind
theorem mul_cancel {x y d : Rat} (hd : d ≠ 0) (h : x * d = y * d) : x = y := by
  have := congrArg (· * d⁻¹) h
  simp only [Rat.mul_assoc, Rat.mul_inv_cancel _ hd, Rat.mul_one] at this
  exact this
theorem seg_unique {a b : PT} {r y : Rat} (h : a.1 < b.1) (hy : (y - (a.2 : Rat)) * ((b.1 : Rat) - (a.1 : Rat)) = ((b.2 : Rat) - (a.2 : Rat)) * (r - (a.1 : Rat))) : segR a b r = y := by
  have h1 := segR_eq (r := r) h
  have hd : ((b.1 : Rat) - (a.1 : Rat)) ≠ 0 := by
    have := cast_lt.2 h
    grind
  have := mul_cancel hd (h1.trans hy.symm)
  grind
theorem seg_left {a b : PT} (h : a.1 < b.1) : segR a b (a.1 : Rat) = (a.2 : Rat) := seg_unique h (by grind)
theorem seg_right {a b : PT} (h : a.1 < b.1) : segR a b (b.1 : Rat) = (b.2 : Rat) := seg_unique h (by grind)
theorem le_mul {x y d : Rat} (hd : 0 < d) (h : x * d ≤ y * d) : x ≤ y := by
  by_cases h1 : y < x
  · exact absurd (Rat.mul_lt_mul_of_pos_right h1 hd) (Rat.not_lt.2 h)
  · exact Rat.not_lt.1 h1

theorem seg_between {a b : PT} {r : Rat} (h : a.1 < b.1) (h0 : (a.1 : Rat) ≤ r) (h1 : r ≤ (b.1 : Rat)) :
    ((min a.2 b.2 : Int) : Rat) ≤ segR a b r ∧ segR a b r ≤ ((max a.2 b.2 : Int) : Rat) := by
  have e := segR_eq (r := r) h
  have hd : (0 : Rat) < (b.1 : Rat) - (a.1 : Rat) := by
    have := cast_lt.2 h
    grind
  generalize segR a b r = y at *
  rcases Int.le_total a.2 b.2 with hy | hy
  · rw [Int.min_eq_left hy, Int.max_eq_right hy]
    have hy' := cast_le.2 hy
    have p1 : (0 : Rat) ≤ ((b.2 : Rat) - (a.2 : Rat)) * (r - (a.1 : Rat)) := Rat.mul_nonneg (by grind) (by grind)
    have p2 : (0 : Rat) ≤ ((b.2 : Rat) - (a.2 : Rat)) * ((b.1 : Rat) - r) := Rat.mul_nonneg (by grind) (by grind)
    exact ⟨le_mul hd (by grind), le_mul hd (by grind)⟩
  · rw [Int.min_eq_right hy, Int.max_eq_left hy]
    have hy' := cast_le.2 hy
    have p1 : (0 : Rat) ≤ ((a.2 : Rat) - (b.2 : Rat)) * (r - (a.1 : Rat)) := Rat.mul_nonneg (by grind) (by grind)
    have p2 : (0 : Rat) ≤ ((a.2 : Rat) - (b.2 : Rat)) * ((b.1 : Rat) - r) := Rat.mul_nonneg (by grind) (by grind)
    exact ⟨le_mul hd (by grind), le_mul hd (by grind)⟩

theorem valC_two (a b : PT) (t : List PT) (r : Rat) : valC (a :: b :: t) r = if r ≤ (b.1 : Rat) then segR a b r else valC (b :: t) r := by rw [valC]

theorem valC_seg : ∀ {c : List PT} {p : Int} {i : Nat} {r : Rat}, UpC p c → (h : i + 1 < c.length) → ((c[i]'(by omega)).1 : Rat) ≤ r → r ≤ (c[i + 1].1 : Rat) → valC c r = segR (c[i]'(by omega)) c[i + 1] r
  | a :: b :: t, p, 0, r, _, _, _, h1 => by
    have h1' : r ≤ (b.1 : Rat) := h1
    rw [valC_two, if_pos h1']; rfl
  | a :: b :: t, p, i + 1, r, hu, h, h0, h1 => by
    have hb : UpC a.1 (b :: t) := hu.2.2
    have hi := valC_seg (c := b :: t) (i := i) (r := r) hb (by simpa using h) h0 h1
    rw [valC_two]
    by_cases hr : r ≤ (b.1 : Rat)
    · rw [if_pos hr]
      cases i with
      | zero =>
        obtain rfl : r = (b.1 : Rat) := Rat.le_antisymm hr h0
        match t, h, hu with
        | d :: t, _, hu =>
          show segR a b _ = segR b d _
          rw [seg_right hu.2.2.2.1, seg_left hu.2.2.2.2.2.1]
      | succ i =>
        exfalso
        have hlt : ∀ (t : List PT) (q : Int) (i : Nat) (h : i < t.length), UpC q t → q < t[i].1 := by
          intro t
          induction t with
          | nil => intro q i h; simp at h
          | cons d t ih =>
            intro q i h hu
            cases i with
            | zero => exact hu.2.1
            | succ i => exact Int.lt_trans hu.2.1 (ih d.1 i (by simpa using h) hu.2.2)
        have h3 : b.1 < ((a :: b :: t)[i + 1 + 1]'(by omega)).1 := by
          show b.1 < (t[i]'(by simp at h; omega)).1
          exact hlt t b.1 i _ hb.2.2
        have := cast_lt.2 h3
        grind
    · rw [if_neg hr]; exact hi
  | [a], _, i, _, _, h, _, _ => by simp at h
  | [], _, i, _, _, h, _, _ => by simp at h
theorem up_lt : ∀ {t : List PT} {q : Int} {i : Nat} (h : i < t.length), UpC q t → q < t[i].1
  | d :: t, q, 0, _, hu => hu.2.1
  | d :: t, q, i + 1, h, hu => by
    have h0 : i < t.length := by simpa using h
    have h1 := up_lt h0 hu.2.2
    exact Int.lt_trans hu.2.1 h1
theorem up_lev : ∀ {t : List PT} {q : Int} {i : Nat} (h : i < t.length), UpC q t → isLev t[i].1 ∧ isLev t[i].2
  | d :: t, q, 0, _, hu => hu.1
  | d :: t, q, i + 1, h, hu => by
    have h0 : i < t.length := by simpa using h
    exact up_lev h0 hu.2.2
theorem up_step : ∀ {t : List PT} {q : Int} {i : Nat} (h : i + 1 < t.length), UpC q t → (t[i]'(by omega)).1 < t[i + 1].1
  | d :: t, q, 0, h, hu => by
    have h0 : 0 < t.length := by simpa using h
    exact up_lt h0 hu.2.2
  | d :: t, q, i + 1, h, hu => by
    have h0 : i + 1 < t.length := by simpa using h
    exact up_step h0 hu.2.2

theorem seg_exists : ∀ {c : List PT} {r : Rat}, 2 ≤ c.length → (firstX c : Rat) ≤ r → r ≤ (lastX c : Rat) → ∃ i, ∃ h : i + 1 < c.length, ((c[i]'(by omega)).1 : Rat) ≤ r ∧ r ≤ (c[i + 1].1 : Rat)
  | [a, b], r, _, h0, h1 => ⟨0, by simp, h0, h1⟩
  | a :: b :: d :: t, r, _, h0, h1 => by
    by_cases h : r ≤ (b.1 : Rat)
    · exact ⟨0, by simp, h0, h⟩
    · obtain ⟨i, hi, h2, h3⟩ := seg_exists (c := b :: d :: t) (r := r) (by simp) (by show (b.1 : Rat) ≤ r; grind) h1
      exact ⟨i + 1, by simpa using hi, h2, h3⟩
  | [a], _, h, _, _ => by simp at h
  | [], _, h, _, _ => by simp at h
theorem OkC.seg {c : List PT} {r : Rat} (h : OkC c) (h0 : 0 ≤ r) (h1 : r ≤ 65535) : ∃ i, ∃ hi : i + 1 < c.length, ((c[i]'(by omega)).1 : Rat) ≤ r ∧ r ≤ (c[i + 1].1 : Rat) ∧ valC c r = segR (c[i]'(by omega)) c[i + 1] r ∧ (c[i]'(by omega)).1 < c[i + 1].1 := by
  obtain ⟨i, hi, h2, h3⟩ := seg_exists h.two (r := r) (by rw [h.first]; exact h0) (by rw [h.last]; exact h1)
  exact ⟨i, hi, h2, h3, valC_seg h.up hi h2 h3, up_step hi h.up⟩
theorem cast_lev {z : Int} (h : isLev z) : (0 : Rat) ≤ (z : Rat) ∧ (z : Rat) ≤ 65535 := ⟨cast_le.2 h.1, cast_le.2 h.2⟩

theorem OkC.lev {c : List PT} {r : Rat} (h : OkC c) (h0 : 0 ≤ r) (h1 : r ≤ 65535) : 0 ≤ valC c r ∧ valC c r ≤ 65535 := by
  obtain ⟨i, hi, h2, h3, e, hs⟩ := h.seg h0 h1
  obtain ⟨b1, b2⟩ := seg_between hs h2 h3
  have l1 := (up_lev (i := i) (by omega) h.up).2
  have l2 := (up_lev hi h.up).2
  rw [e]
  unfold isLev at l1 l2
  have c1 := (cast_lev (z := min (c[i]'(by omega)).2 c[i + 1].2) (by unfold isLev; omega)).1
  have c2 := (cast_lev (z := max (c[i]'(by omega)).2 c[i + 1].2) (by unfold isLev; omega)).2
  exact ⟨Rat.le_trans c1 b1, Rat.le_trans b2 c2⟩

theorem OkC.at {c : List PT} (h : OkC c) {i : Nat} (hi : i < c.length) : valC c (c[i].1 : Rat) = (c[i].2 : Rat) := by
  have h2 := h.two
  by_cases h3 : i + 1 < c.length
  · rw [valC_seg h.up h3 (Rat.le_refl) (by have := cast_lt.2 (up_step h3 h.up); grind)]
    exact seg_left (up_step h3 h.up)
  · obtain ⟨j, rfl⟩ : ∃ j, i = j + 1 := ⟨i - 1, by omega⟩
    rw [valC_seg h.up hi (by have := cast_lt.2 (up_step hi h.up); grind) (Rat.le_refl)]
    exact seg_right (up_step hi h.up)

end Go.Proofs.YtppehllccdjfkaaGreatDoor

namespace Go.Proofs.YtppehllccdjfkaaGreatDoor

def wholeC (c : List PT) : Prop := (firstY c = 0 ∧ lastY c = 65535) ∨ (firstY c = 65535 ∧ lastY c = 0)
instance (c : List PT) : Decidable (wholeC c) := by unfold wholeC; infer_instance
theorem firstX_get {c : List PT} (h : 0 < c.length) : firstX c = c[0].1 := by
  match c, h with
  | q :: t, _ => rfl
theorem last_get {c : List PT} (h : 0 < c.length) : c.getLastD (0, 0) = c[c.length - 1] := by
  rw [List.getLastD_eq_getLast?, List.getLast?_eq_getElem?, List.getElem?_eq_getElem (by omega)]
  rfl
theorem lastX_get {c : List PT} (h : 0 < c.length) : lastX c = c[c.length - 1].1 := by unfold lastX; rw [last_get h]
end Go.Proofs.YtppehllccdjfkaaGreatDoor

namespace Go.Proofs.YtppehllccdjfkaaGreatDoor

end Go.Proofs.YtppehllccdjfkaaGreatDoor
