/- Lemmas and contracts of functions, joined for the claim: PlainZ, PlainD, PlainT, PlainW, PlainX, PlainY, PlainU, PlainN, PlainO, PlainR, PlainC, PlainS, PlainV, PlainE, PlainK, PlainJ, PlainI. -/
import Derived.Lib.ItoaNum
import Derived.Lib.ParseIntB
import Derived.Lib.AtoiAll
import Derived.Lib.AtoiAllCases
import Derived.Lib.SlTrimSet
import Derived.Lib.Bytealg
namespace Go.Proofs.YtpinmgoeapakdaaGreatDoor

def wv (B : Nat) : List Nat → Nat
  | [] => 0
  | x :: t => x + B * wv B t

def Wd (B : Nat) (l : List Nat) : Prop := ∀ x ∈ l, x < B

def wds (B : Nat) (n : Nat) : List Nat := if _h : n = 0 ∨ B ≤ 1 then [] else n % B :: wds B (n / B)
termination_by n
decreasing_by exact Nat.div_lt_self (by omega) (by omega)

theorem wv_nil (B : Nat) : wv B [] = 0 := rfl
theorem wv_append (B : Nat) (l k : List Nat) : wv B (l ++ k) = wv B l + B ^ l.length * wv B k := by
  induction l with
  | nil => simp [wv]
  | cons x t ih => simp only [List.cons_append, wv, ih, List.length_cons, Nat.pow_succ]; rw [Nat.mul_add, ← Nat.mul_assoc, Nat.mul_comm B (B ^ t.length)]; omega
theorem wv_snoc (B : Nat) (l : List Nat) (x : Nat) : wv B (l ++ [x]) = wv B l + B ^ l.length * x := by rw [wv_append]; simp [wv]
theorem wv_take_succ (B : Nat) (l : List Nat) (k : Nat) (h : k < l.length) : wv B (l.take (k + 1)) = wv B (l.take k) + B ^ k * l[k] := by
  rw [List.take_succ_eq_append_getElem h, wv_snoc, List.length_take, Nat.min_eq_left (by omega)]
theorem wv_lt {B : Nat} {l : List Nat} (h : Wd B l) : wv B l < B ^ l.length := by
  induction l with
  | nil => simp [wv]
  | cons x t ih =>
    have h1 := h x (by simp)
    have h2 := ih fun y hy => h y (by simp [hy])
    simp only [wv, List.length_cons, Nat.pow_succ]
    have h3 : B * (wv B t + 1) ≤ B * B ^ t.length := Nat.mul_le_mul_left _ h2
    rw [Nat.mul_comm (B ^ t.length)]
    rw [Nat.mul_add] at h3
    omega
theorem wv_replicate (B k : Nat) : wv B (List.replicate k 0) = 0 := by
  induction k with
  | zero => rfl
  | succ k ih => simp [List.replicate_succ, wv, ih]
theorem wv_set {B : Nat} : ∀ {l : List Nat} {k : Nat} (h : k < l.length) (x : Nat), wv B (l.set k x) + B ^ k * l[k] = wv B l + B ^ k * x
  | y :: t, 0, _, x => by simp [wv]; omega
  | y :: t, k + 1, h, x => by
    have ih := wv_set (B := B) (l := t) (k := k) (by simpa using h) x
    simp only [List.set_cons_succ, wv, List.getElem_cons_succ, Nat.pow_succ]
    have e : ∀ z, B ^ k * B * z = B * (B ^ k * z) := fun z => by rw [Nat.mul_comm (B ^ k) B, Nat.mul_assoc]
    rw [e, e]
    have := congrArg (B * ·) ih
    simp only [Nat.mul_add] at this
    omega
theorem Wd.nil (B : Nat) : Wd B [] := by intro x hx; cases hx
theorem Wd.snoc {B : Nat} {l : List Nat} (h : Wd B l) {x : Nat} (hx : x < B) : Wd B (l ++ [x]) := by
  intro y hy
  rcases List.mem_append.1 hy with hy | hy
  · exact h y hy
  · simp at hy; omega
theorem Wd.set {B : Nat} {l : List Nat} (h : Wd B l) {x : Nat} (hx : x < B) (k : Nat) : Wd B (l.set k x) := by
  intro y hy
  rcases List.mem_or_eq_of_mem_set hy with hy | hy
  · exact h y hy
  · omega
theorem Wd.at {B : Nat} {l : List Nat} (h : Wd B l) {k : Nat} (hk : k < l.length) : l[k] < B := h _ (List.getElem_mem hk)
theorem Wd.take {B : Nat} {l : List Nat} (h : Wd B l) (k : Nat) : Wd B (l.take k) := fun x hx => h x (List.mem_of_mem_take hx)
theorem Wd.drop {B : Nat} {l : List Nat} (h : Wd B l) (k : Nat) : Wd B (l.drop k) := fun x hx => h x (List.mem_of_mem_drop hx)
theorem Wd.replicate {B : Nat} (h : 0 < B) (k : Nat) : Wd B (List.replicate k 0) := by
  intro x hx
  have := List.eq_of_mem_replicate hx
  omega
theorem Wd.append {B : Nat} {l k : List Nat} (h : Wd B l) (h' : Wd B k) : Wd B (l ++ k) := by
  intro x hx
  rcases List.mem_append.1 hx with hx | hx
  · exact h x hx
  · exact h' x hx

theorem wds_zero (B : Nat) : wds B 0 = [] := by rw [wds, dif_pos (.inl rfl)]
theorem wds_pos {B n : Nat} (hB : 2 ≤ B) (h : 0 < n) : wds B n = n % B :: wds B (n / B) := by rw [wds, dif_neg (by omega)]
theorem wds_val {B : Nat} (hB : 2 ≤ B) : ∀ n, wv B (wds B n) = n := by
  intro n
  induction n using Nat.strongRecOn with
  | _ n ih =>
    by_cases h : n = 0
    · subst h; rw [wds_zero]; rfl
    · rw [wds_pos hB (by omega), wv, ih (n / B) (Nat.div_lt_self (by omega) (by omega))]
      exact Nat.mod_add_div n B
theorem wds_wd {B : Nat} (hB : 2 ≤ B) : ∀ n, Wd B (wds B n) := by
  intro n
  induction n using Nat.strongRecOn with
  | _ n ih =>
    by_cases h : n = 0
    · subst h; rw [wds_zero]; exact Wd.nil B
    · rw [wds_pos hB (by omega)]
      intro x hx
      rcases List.mem_cons.1 hx with rfl | hx
      · exact Nat.mod_lt _ (by omega)
      · exact ih (n / B) (Nat.div_lt_self (by omega) (by omega)) x hx

def Top (l : List Nat) : Prop := ∀ x, l.getLast? = some x → x ≠ 0
theorem wds_of : ∀ {B : Nat} {l : List Nat}, 2 ≤ B → Wd B l → Top l → wds B (wv B l) = l
  | B, [], hB, _, _ => wds_zero B
  | B, x :: t, hB, h, ht => by
    have hx := h x (by simp)
    have h' : Wd B t := fun y hy => h y (by simp [hy])
    have ht' : Top t := by
      intro y hy
      refine ht y ?_
      cases t with
      | nil => cases hy
      | cons z u => simpa [List.getLast?_cons_cons] using hy
    have ih := wds_of hB h' ht'
    have hpos : 0 < wv B (x :: t) := by
      cases t with
      | nil =>
        have := ht x (by simp)
        simp [wv]; omega
      | cons z u =>
        have : wv B (z :: u) ≠ 0 := by
          intro h0
          rw [h0, wds_zero] at ih
          cases ih
        have h2 : 0 < B * wv B (z :: u) := Nat.mul_pos (by omega) (by omega)
        simp only [wv] at h2 ⊢; omega
    rw [wds_pos hB hpos]
    simp only [wv]
    rw [Nat.add_mul_mod_self_left, Nat.mod_eq_of_lt hx, Nat.add_mul_div_left _ _ (by omega), Nat.div_eq_of_lt hx, Nat.zero_add, ih]
theorem wds_top {B : Nat} (hB : 2 ≤ B) : ∀ n, Top (wds B n) := by
  intro n
  induction n using Nat.strongRecOn with
  | _ n ih =>
    by_cases h : n = 0
    · subst h; rw [wds_zero]; intro x hx; cases hx
    · rw [wds_pos hB (by omega)]
      intro x hx
      by_cases hd : n / B = 0
      · rw [hd, wds_zero] at hx
        simp at hx
        have : n < B := by rcases Nat.div_eq_zero_iff.1 hd with h | h <;> omega
        rw [Nat.mod_eq_of_lt this] at hx
        omega
      · rw [wds_pos hB (Nat.pos_of_ne_zero hd), List.getLast?_cons_cons, ← wds_pos hB (Nat.pos_of_ne_zero hd)] at hx
        exact ih (n / B) (Nat.div_lt_self (by omega) (by omega)) x hx
theorem wds_inj {B m n : Nat} (hB : 2 ≤ B) (h : wds B m = wds B n) : m = n := by rw [← wds_val hB m, h, wds_val hB]
theorem wds_eq_nil {B n : Nat} (hB : 2 ≤ B) : wds B n = [] ↔ n = 0 := ⟨fun h => by rw [← wds_val hB n, h]; rfl, fun h => by rw [h, wds_zero]⟩
theorem wds_len_pos {B n : Nat} (hB : 2 ≤ B) : 0 < (wds B n).length ↔ 0 < n := by
  rw [List.length_pos_iff, ne_eq, wds_eq_nil hB]; omega
theorem wds_lt {B : Nat} (hB : 2 ≤ B) (n : Nat) : n < B ^ (wds B n).length := by
  have := wv_lt (wds_wd hB n)
  rwa [wds_val hB] at this

theorem wds_ge {B : Nat} (hB : 2 ≤ B) {n : Nat} (h : 0 < n) : B ^ ((wds B n).length - 1) ≤ n := by
  induction n using Nat.strongRecOn with
  | _ n ih =>
    rw [wds_pos hB h]
    by_cases hd : n / B = 0
    · rw [hd, wds_zero]; simp; omega
    · have := ih (n / B) (Nat.div_lt_self (by omega) (by omega)) (Nat.pos_of_ne_zero hd)
      rw [List.length_cons, Nat.add_sub_cancel]
      have hl := (wds_len_pos (B := B) hB).2 (Nat.pos_of_ne_zero hd)
      obtain ⟨k, hk⟩ : ∃ k, (wds B (n / B)).length = k + 1 := ⟨(wds B (n / B)).length - 1, by omega⟩
      rw [hk] at this ⊢
      rw [Nat.add_sub_cancel] at this
      rw [Nat.pow_succ]
      exact Nat.le_trans (Nat.mul_le_mul_right B this) (Nat.div_mul_le_self n B)
theorem wds_len_le {B m n : Nat} (hB : 2 ≤ B) (h : m ≤ n) : (wds B m).length ≤ (wds B n).length := by
  by_cases h0 : m = 0
  · rw [h0, wds_zero]; simp
  · have h1 := wds_ge hB (show 0 < m by omega)
    have h2 := wds_lt hB n
    have h3 : B ^ ((wds B m).length - 1) < B ^ (wds B n).length := by omega
    have := (Nat.pow_lt_pow_iff_right (by omega)).1 h3
    omega

theorem wds_len_of_lt {B n k : Nat} (hB : 2 ≤ B) (h : n < B ^ k) : (wds B n).length ≤ k := by
  by_cases h0 : n = 0
  · rw [h0, wds_zero]; simp
  · have h1 := wds_ge hB (show 0 < n by omega)
    have h3 : B ^ ((wds B n).length - 1) < B ^ k := by omega
    have := (Nat.pow_lt_pow_iff_right (by omega)).1 h3
    omega

theorem wds_cut {B : Nat} (hB : 2 ≤ B) {l : List Nat} (h : Wd B l) (k : Nat) (hk : k < l.length) (hx : l[k] ≠ 0) (hz : ∀ j (hj : j < l.length), k < j → l[j] = 0) : wds B (wv B l) = l.take (k + 1) := by
  have e : wv B l = wv B (l.take (k + 1)) := by
    have hd : l.drop (k + 1) = List.replicate (l.length - (k + 1)) 0 := by
      refine List.ext_getElem (by simp) fun j h1 h2 => ?_
      rw [List.getElem_drop, List.getElem_replicate]
      exact hz _ _ (by omega)
    have e2 : wv B l = wv B (l.take (k + 1) ++ l.drop (k + 1)) := by rw [List.take_append_drop]
    rw [e2, wv_append, hd, wv_replicate, Nat.mul_zero, Nat.add_zero]
  rw [e]
  refine wds_of hB (h.take _) fun x hlast => ?_
  rw [List.take_succ_eq_append_getElem hk] at hlast
  rw [List.getLast?_append] at hlast
  simp at hlast
  rw [← hlast]; exact hx
theorem wds_cut0 {B : Nat} {l : List Nat} (hz : ∀ j (hj : j < l.length), l[j] = 0) : wds B (wv B l) = [] := by
  have hd : l = List.replicate l.length 0 := by
    refine List.ext_getElem (by simp) fun j h1 h2 => ?_
    rw [List.getElem_replicate]
    exact hz _ _
  rw [hd, wv_replicate, wds_zero]

theorem add_step {B a b c k x y : Nat} (h : a + B ^ k * c = b) : (a + B ^ k * ((c + x + y) % B)) + B ^ (k + 1) * ((c + x + y) / B) = b + B ^ k * x + B ^ k * y := by
  have e := Nat.mod_add_div (c + x + y) B
  have : B ^ k * ((c + x + y) % B) + B ^ (k + 1) * ((c + x + y) / B) = B ^ k * (c + x + y) := by
    rw [Nat.pow_succ, Nat.mul_assoc, ← Nat.mul_add, e]
  rw [Nat.add_assoc, this, Nat.mul_add, Nat.mul_add]
  omega
end Go.Proofs.YtpinmgoeapakdaaGreatDoor

namespace Go.Proofs.YtpinmgoeapakdaaGreatDoor
open Go.Lib

abbrev BT := List UInt8
theorem snoc_ind {α : Type} {P : List α → Prop} (h0 : P []) (hs : ∀ l c, P l → P (l ++ [c])) (l : List α) : P l := by
  have : ∀ r : List α, P r.reverse := by
    intro r
    induction r with
    | nil => exact h0
    | cons c r ih => rw [List.reverse_cons]; exact hs _ _ ih
  have := this l.reverse
  rwa [List.reverse_reverse] at this

def isDg (c : UInt8) : Bool := decide (48 ≤ c.toNat ∧ c.toNat ≤ 57)
theorem isDg_iff {c : UInt8} : isDg c = true ↔ 48 ≤ c.toNat ∧ c.toNat ≤ 57 := by simp [isDg]

def Dgs (l : BT) : Prop := ∀ c ∈ l, isDg c = true
theorem Dgs.append {l k : BT} (h : Dgs l) (h' : Dgs k) : Dgs (l ++ k) := by
  intro c hc
  rcases List.mem_append.1 hc with hc | hc
  · exact h c hc
  · exact h' c hc
theorem Dgs.left {l k : BT} (h : Dgs (l ++ k)) : Dgs l := fun c hc => h c (List.mem_append.2 (.inl hc))
theorem Dgs.right {l k : BT} (h : Dgs (l ++ k)) : Dgs k := fun c hc => h c (List.mem_append.2 (.inr hc))
theorem Dgs.take {l : BT} (h : Dgs l) (k : Nat) : Dgs (l.take k) := fun c hc => h c (List.mem_of_mem_take hc)
theorem Dgs.drop {l : BT} (h : Dgs l) (k : Nat) : Dgs (l.drop k) := fun c hc => h c (List.mem_of_mem_drop hc)

def dg1 (d : Nat) : UInt8 := UInt8.ofNat (48 + d)
theorem dg1_nat {d : Nat} (h : d < 10) : (dg1 d).toNat = 48 + d := by simp [dg1, UInt8.toNat_ofNat]; omega
theorem dg1_dg {d : Nat} (h : d < 10) : isDg (dg1 d) = true := by rw [isDg_iff, dg1_nat h]; omega
theorem dg1_of {c : UInt8} (h : isDg c = true) : c = dg1 (c.toNat - 48) := by
  rw [isDg_iff] at h
  apply UInt8.toNat_inj.1
  rw [dg1_nat (by omega)]; omega

def dval : BT → Nat := List.foldl (fun a c => 10 * a + (c.toNat - 48)) 0
theorem dval_nil : dval [] = 0 := rfl
theorem dval_snoc (l : BT) (c : UInt8) : dval (l ++ [c]) = 10 * dval l + (c.toNat - 48) := by unfold dval; rw [List.foldl_append]; rfl
theorem dval_append (l k : BT) : dval (l ++ k) = dval l * 10 ^ k.length + dval k := by
  refine snoc_ind (P := fun k => dval (l ++ k) = dval l * 10 ^ k.length + dval k) ?_ ?_ k
  · simp [dval_nil]
  · intro k c ih
    rw [← List.append_assoc, dval_snoc, ih, dval_snoc, List.length_append, List.length_singleton, Nat.pow_succ, Nat.mul_add, ← Nat.mul_assoc, Nat.mul_comm 10 (dval l), Nat.mul_assoc, Nat.mul_comm 10 (10 ^ k.length), Nat.add_assoc]
theorem dval_one (c : UInt8) : dval [c] = c.toNat - 48 := by have := dval_snoc [] c; simpa [dval_nil] using this
theorem dval_take_succ (l : BT) (k : Nat) (h : k < l.length) : dval (l.take (k + 1)) = 10 * dval (l.take k) + (l[k].toNat - 48) := by
  rw [List.take_succ_eq_append_getElem h, dval_snoc]
theorem dval_lt {l : BT} (h : Dgs l) : dval l < 10 ^ l.length := by
  revert h
  refine snoc_ind (P := fun l => Dgs l → dval l < 10 ^ l.length) (fun _ => by simp [dval_nil]) (fun l c ih h => ?_) l
  have h1 := ih h.left
  have h2 := isDg_iff.1 (h c (by simp))
  rw [dval_snoc, List.length_append, List.length_singleton, Nat.pow_succ]
  omega
theorem dval_zeros (k : Nat) : dval (List.replicate k 48) = 0 := by
  induction k with
  | zero => rfl
  | succ k ih => rw [List.replicate_succ', dval_snoc, ih]; rfl

theorem dval_inj : ∀ {k : Nat} {l m : BT}, l.length = k → m.length = k → Dgs l → Dgs m → dval l = dval m → l = m := by
  intro k
  induction k with
  | zero => intro l m hl hm _ _ _; rw [List.length_eq_zero_iff.1 hl, List.length_eq_zero_iff.1 hm]
  | succ k ih =>
    intro l m hl hm dl dm h
    obtain ⟨a, c, rfl⟩ : ∃ a c, l = a ++ [c] := ⟨l.dropLast, l.getLast (by intro h; rw [h] at hl; simp at hl), (List.dropLast_concat_getLast _).symm⟩
    obtain ⟨b, d, rfl⟩ : ∃ a c, m = a ++ [c] := ⟨m.dropLast, m.getLast (by intro h; rw [h] at hm; simp at hm), (List.dropLast_concat_getLast _).symm⟩
    rw [dval_snoc, dval_snoc] at h
    have hc := isDg_iff.1 (dl c (by simp))
    have hd := isDg_iff.1 (dm d (by simp))
    have e1 : dval a = dval b := by omega
    have e2 : c = d := UInt8.toNat_inj.1 (by omega)
    rw [ih (by simpa using hl) (by simpa using hm) dl.left dm.left e1, e2]

theorem dec_small {n : Nat} (h : n < 10) : decDigits n = [dg1 n] := by rw [decDigits, dif_pos h]; rfl
theorem dec_big {n : Nat} (h : ¬ n < 10) : decDigits n = decDigits (n / 10) ++ [dg1 (n % 10)] := by rw [decDigits, dif_neg h]; rfl
theorem dec_val : ∀ n, dval (decDigits n) = n := by
  intro n
  induction n using Nat.strongRecOn with
  | _ n ih =>
    by_cases h : n < 10
    · rw [dec_small h, dval_one, dg1_nat h]; omega
    · rw [dec_big h, dval_snoc, ih (n / 10) (by omega), dg1_nat (by omega)]; omega
theorem dec_dgs : ∀ n, Dgs (decDigits n) := by
  intro n
  induction n using Nat.strongRecOn with
  | _ n ih =>
    by_cases h : n < 10
    · rw [dec_small h]; intro c hc; simp at hc; subst hc; exact dg1_dg h
    · rw [dec_big h]
      refine (ih (n / 10) (by omega)).append ?_
      intro c hc; simp at hc; subst hc; exact dg1_dg (by omega)
theorem dec_len : ∀ n, (decDigits n).length = nDigits n := by
  intro n
  induction n using Nat.strongRecOn with
  | _ n ih =>
    by_cases h : n < 10
    · rw [dec_small h, nDigits_small h]; rfl
    · rw [dec_big h, nDigits_big h, List.length_append, ih (n / 10) (by omega)]; rfl
theorem dec_pos (n : Nat) : 0 < (decDigits n).length := by rw [dec_len]; exact nDigits_pos n
theorem dec_ne (n : Nat) : decDigits n ≠ [] := by have := dec_pos n; intro h; rw [h] at this; simp at this
theorem dec_zero : decDigits 0 = [48] := by rw [dec_small (by omega)]; rfl

theorem dec_step {v d : Nat} (hv : 0 < v) (hd : d < 10) : decDigits (10 * v + d) = decDigits v ++ [dg1 d] := by
  rw [dec_big (by omega)]
  rw [show (10 * v + d) / 10 = v from by omega, show (10 * v + d) % 10 = d from by omega]
theorem dec_head : ∀ n, 0 < n → ∃ c t, decDigits n = c :: t ∧ c ≠ 48 := by
  intro n
  induction n using Nat.strongRecOn with
  | _ n ih =>
    intro hn
    by_cases h : n < 10
    · refine ⟨dg1 n, [], dec_small h, fun e => ?_⟩
      have := dg1_nat h
      rw [e] at this
      simp at this; omega
    · obtain ⟨c, t, e, hc⟩ := ih (n / 10) (by omega) (by omega)
      exact ⟨c, t ++ [dg1 (n % 10)], by rw [dec_big h, e]; rfl, hc⟩

theorem dec_of {l : BT} (hd : Dgs l) (h : ∃ c t, l = c :: t ∧ (c ≠ 48 ∨ t = [])) : decDigits (dval l) = l := by
  obtain ⟨c, t, rfl, hc⟩ := h
  refine snoc_ind (P := fun t => Dgs (c :: t) → (c ≠ 48 ∨ t = []) → decDigits (dval (c :: t)) = c :: t) ?_ ?_ t hd hc
  · intro hd _
    have h := hd c (by simp)
    have h' := isDg_iff.1 h
    rw [dval_one, dec_small (by omega), ← dg1_of h]
  · intro t x ih hd hc
    have hc : c ≠ 48 := by rcases hc with h | h; exact h; simp at h
    have hd' : Dgs (c :: t) := fun y hy => hd y (by rcases List.mem_cons.1 hy with h | h <;> simp [h])
    have ih := ih hd' (.inl hc)
    have hx := hd x (by simp)
    have hx' := isDg_iff.1 hx
    have hpos : 0 < dval (c :: t) := by
      rw [show c :: t = [c] ++ t from rfl, dval_append, dval_one]
      have h1 := isDg_iff.1 (hd c (by simp))
      have h2 : c.toNat - 48 ≠ 0 := by
        intro h
        apply hc
        apply UInt8.toNat_inj.1
        show c.toNat = 48
        omega
      have := Nat.mul_pos (Nat.pos_of_ne_zero h2) (Nat.pow_pos (n := t.length) (show 0 < 10 by omega))
      omega
    rw [show c :: (t ++ [x]) = (c :: t) ++ [x] from rfl, dval_snoc, dec_step hpos (by omega), ih, ← dg1_of hx]
theorem dec_inj {m n : Nat} (h : decDigits m = decDigits n) : m = n := by rw [← dec_val m, h, dec_val]
theorem dec_len_iff {n k : Nat} (hk : 0 < k) : (decDigits n).length ≤ k ↔ n < 10 ^ k := by
  constructor
  · intro h
    have h1 := dval_lt (dec_dgs n)
    rw [dec_val] at h1
    exact Nat.lt_of_lt_of_le h1 (Nat.pow_le_pow_right (by omega) h)
  · intro h
    by_cases h0 : n = 0
    · subst h0; rw [dec_zero]; simp; omega
    · obtain ⟨c, t, e, hc⟩ := dec_head n (by omega)
      have hd := dec_dgs n
      have hv := dec_val n
      rw [e] at hd hv ⊢
      rw [show c :: t = [c] ++ t from rfl, dval_append, dval_one] at hv
      have h1 := isDg_iff.1 (hd c (by simp))
      have h2 : c.toNat - 48 ≠ 0 := by
        intro h
        apply hc
        apply UInt8.toNat_inj.1
        show c.toNat = 48
        omega
      have h3 : 10 ^ t.length ≤ n := by
        have := Nat.le_mul_of_pos_left (10 ^ t.length) (Nat.pos_of_ne_zero h2)
        omega
      have h4 : 10 ^ t.length < 10 ^ k := by omega
      have := (Nat.pow_lt_pow_iff_right (by omega)).1 h4
      simp; omega

def decZ (n : Nat) : BT := if n = 0 then [] else decDigits n
theorem decZ_zero : decZ 0 = [] := rfl
theorem decZ_pos {n : Nat} (h : 0 < n) : decZ n = decDigits n := if_neg (by omega)
theorem decZ_len (n : Nat) : 0 < (decZ n).length ↔ 0 < n := by
  unfold decZ; split
  · simp; omega
  · have := dec_pos n; omega
theorem decZ_step {v d : Nat} (hd : d < 10) (h : d ≠ 0 ∨ 0 < v) : decZ (10 * v + d) = decZ v ++ [dg1 d] := by
  by_cases hv : v = 0
  · subst hv
    rw [decZ_pos (by omega), decZ_zero, Nat.mul_zero, Nat.zero_add, dec_small hd]; rfl
  · rw [decZ_pos (by omega), decZ_pos (by omega), dec_step (by omega) hd]

theorem dec_word {k v x : Nat} (hv : 0 < v) (hx : x < 10 ^ k) (hk : 0 < k) : decDigits (v * 10 ^ k + x) = decDigits v ++ (List.replicate (k - (decDigits x).length) 48 ++ decDigits x) := by
  have hl := (dec_len_iff hk).2 hx
  obtain ⟨c, t, e, hc⟩ := dec_head v hv
  have hd : Dgs (decDigits v ++ (List.replicate (k - (decDigits x).length) 48 ++ decDigits x)) := by
    refine (dec_dgs v).append (Dgs.append ?_ (dec_dgs x))
    intro y hy
    rw [List.eq_of_mem_replicate hy]; decide
  have hval : dval (decDigits v ++ (List.replicate (k - (decDigits x).length) 48 ++ decDigits x)) = v * 10 ^ k + x := by
    rw [dval_append, dval_append, dec_val, dec_val, dval_zeros, List.length_append, List.length_replicate, Nat.sub_add_cancel hl]; omega
  rw [← hval]
  refine dec_of hd ⟨c, t ++ (List.replicate (k - (decDigits x).length) 48 ++ decDigits x), by rw [e]; rfl, .inl hc⟩
end Go.Proofs.YtpinmgoeapakdaaGreatDoor

namespace Go.Proofs.YtpinmgoeapakdaaGreatDoor
open Go.Lib

def bodyT (s : BT) : BT := match s with
  | 45 :: t => t
  | _ => s
def negT (s : BT) : Bool := match s with
  | 45 :: _ => true
  | _ => false
theorem bodyT_minus (t : BT) : bodyT (45 :: t) = t := rfl
theorem negT_minus (t : BT) : negT (45 :: t) = true := rfl
theorem bodyT_other {c : UInt8} {t : BT} (h : c ≠ 45) : bodyT (c :: t) = c :: t := by
  unfold bodyT; split
  · rename_i h'; injection h' with h1 _; exact absurd h1 h
  · rfl
theorem negT_other {c : UInt8} {t : BT} (h : c ≠ 45) : negT (c :: t) = false := by
  unfold negT; split
  · rename_i h'; injection h' with h1 _; exact absurd h1 h
  · rfl
theorem text_split (s : BT) : s = (if negT s then 45 :: bodyT s else bodyT s) := by
  unfold negT bodyT; split <;> simp

def chkI (s : BT) : Int :=
  if bodyT s = [] ∨ ¬ (∀ c ∈ bodyT s, isDg c = true) ∨ ((bodyT s).head? = some 48 ∧ (1 < (bodyT s).length ∨ negT s = true)) then 3
  else if 4096 < (bodyT s).length then 23 else 0

theorem itoa_neg' {z : Int} (h : z < 0) : itoa z = 45 :: decDigits z.natAbs := by unfold itoa; rw [if_pos h]
theorem itoa_pos' {z : Int} (h : 0 ≤ z) : itoa z = decDigits z.natAbs := by unfold itoa; rw [if_neg (by omega), show z.toNat = z.natAbs from by omega]
theorem dec_head45 (n : Nat) : ∃ c t, decDigits n = c :: t ∧ c ≠ 45 := by
  have hd := dec_dgs n
  cases h : decDigits n with
  | nil => exact absurd h (dec_ne n)
  | cons c t =>
    rw [h] at hd
    refine ⟨c, t, rfl, fun e => ?_⟩
    have := isDg_iff.1 (hd c (by simp))
    rw [e] at this
    simp at this
theorem bodyT_itoa (z : Int) : bodyT (itoa z) = decDigits z.natAbs := by
  by_cases h : z < 0
  · rw [itoa_neg' h]; rfl
  · rw [itoa_pos' (by omega)]
    obtain ⟨c, t, e, hc⟩ := dec_head45 z.natAbs
    rw [e, bodyT_other hc]
theorem negT_itoa (z : Int) : negT (itoa z) = decide (z < 0) := by
  by_cases h : z < 0
  · rw [itoa_neg' h, decide_eq_true h]; rfl
  · rw [itoa_pos' (by omega), decide_eq_false h]
    obtain ⟨c, t, e, hc⟩ := dec_head45 z.natAbs
    rw [e, negT_other hc]
theorem itoa_inj {x y : Int} (h : itoa x = itoa y) : x = y := by
  have h1 := congrArg bodyT h
  have h2 := congrArg negT h
  rw [bodyT_itoa, bodyT_itoa] at h1
  rw [negT_itoa, negT_itoa, decide_eq_decide] at h2
  have := dec_inj h1
  omega
theorem itoa_zero : itoa 0 = [48] := by rw [itoa_pos' (by omega)]; exact dec_zero
theorem itoa_eq_zero {z : Int} : itoa z = [48] ↔ z = 0 := ⟨fun h => itoa_inj (h.trans itoa_zero.symm), fun h => by rw [h, itoa_zero]⟩
theorem chkI_itoa (z : Int) : chkI (itoa z) = if 4096 < (decDigits z.natAbs).length then 23 else 0 := by
  unfold chkI
  rw [bodyT_itoa, negT_itoa]
  rw [if_neg]
  rintro (h | h | ⟨h1, h2⟩)
  · exact dec_ne _ h
  · exact h (dec_dgs _)
  · by_cases h0 : z.natAbs = 0
    · rw [h0, dec_zero] at h2
      simp at h2
      omega
    · obtain ⟨c, t, e, hc⟩ := dec_head z.natAbs (by omega)
      rw [e] at h1
      simp at h1
      exact hc h1

theorem chkI_form {s : BT} (h : chkI s ≠ 3) : ∃ z : Int, s = itoa z := by
  unfold chkI at h
  by_cases hc : bodyT s = [] ∨ ¬ (∀ c ∈ bodyT s, isDg c = true) ∨ ((bodyT s).head? = some 48 ∧ (1 < (bodyT s).length ∨ negT s = true))
  · rw [if_pos hc] at h; exact absurd rfl h
  · have h1 : bodyT s ≠ [] := fun e => hc (.inl e)
    have h2 : ∀ c ∈ bodyT s, isDg c = true := Classical.not_not.1 fun e => hc (.inr (.inl e))
    have h3 : ¬ ((bodyT s).head? = some 48 ∧ (1 < (bodyT s).length ∨ negT s = true)) := fun e => hc (.inr (.inr e))
    have hs := text_split s
    obtain ⟨c, t, e⟩ : ∃ c t, bodyT s = c :: t := by
      cases hb : bodyT s with
      | nil => exact absurd hb h1
      | cons c t => exact ⟨c, t, rfl⟩
    rw [e] at h2 h3
    have hdec : decDigits (dval (c :: t)) = c :: t := by
      refine dec_of h2 ⟨c, t, rfl, ?_⟩
      by_cases hc48 : c = 48
      · refine .inr ?_
        cases t with
        | nil => rfl
        | cons d u => exact absurd ⟨by simp [hc48], .inl (by simp)⟩ h3
      · exact .inl hc48
    cases hn : negT s with
    | false =>
      rw [hn, e] at hs
      refine ⟨(dval (c :: t) : Nat), ?_⟩
      rw [itoa_pos' (by omega), Int.natAbs_natCast, hdec]
      simpa using hs
    | true =>
      rw [hn, e] at hs
      have hpos : 0 < dval (c :: t) := by
        refine Nat.pos_of_ne_zero fun h0 => ?_
        rw [h0, dec_zero] at hdec
        injection hdec with h4 h5
        exact h3 ⟨by rw [← h4]; rfl, .inr hn⟩
      refine ⟨-(dval (c :: t) : Nat), ?_⟩
      rw [itoa_neg' (by omega), Int.natAbs_neg, Int.natAbs_natCast, hdec]
      simpa using hs

def Fit (z : Int) : Prop := z.natAbs < 10 ^ 4096
theorem fit_iff {z : Int} : Fit z ↔ ¬ 4096 < (decDigits z.natAbs).length := by
  unfold Fit; rw [← dec_len_iff (k := 4096) (by omega)]; omega
theorem chkI_ok {s : BT} (h : chkI s = 0) : ∃ z : Int, s = itoa z ∧ Fit z := by
  obtain ⟨z, rfl⟩ := chkI_form (s := s) (by omega)
  refine ⟨z, rfl, fit_iff.2 fun h' => ?_⟩
  rw [chkI_itoa, if_pos h'] at h
  omega
theorem chkI_fit {z : Int} (h : Fit z) : chkI (itoa z) = 0 := by rw [chkI_itoa, if_neg (fit_iff.1 h)]
theorem chkI_cases (s : BT) : chkI s = 0 ∨ chkI s = 3 ∨ chkI s = 23 := by
  unfold chkI; split
  · simp
  · split <;> simp
theorem itoa_len (z : Int) : (itoa z).length ≤ (decDigits z.natAbs).length + 1 := by
  by_cases h : z < 0
  · rw [itoa_neg' h]; simp
  · rw [itoa_pos' (by omega)]; omega

def longT (z : Int) : BT × Int := if 4096 < (decDigits z.natAbs).length then ([], 23) else (itoa z, 0)
end Go.Proofs.YtpinmgoeapakdaaGreatDoor

namespace Go.Proofs.YtpinmgoeapakdaaGreatDoor
open Go.Lib

theorem chunk_step (s : BT) (b : Nat) (e : Nat) (he : e ≤ s.length) : dval (s.take e) = dval (s.take (e - b)) * 10 ^ b + dval ((s.take e).drop (e - b)) := by
  have h1 : s.take e = s.take (e - b) ++ (s.take e).drop (e - b) := by
    have := List.take_append_drop (e - b) (s.take e)
    rw [List.take_take, Nat.min_eq_left (by omega)] at this
    exact this.symm
  have h2 : ((s.take e).drop (e - b)).length = e - (e - b) := by rw [List.length_drop, List.length_take, Nat.min_eq_left he]
  by_cases hb : b ≤ e
  · have h3 : dval (s.take e) = dval (s.take (e - b) ++ (s.take e).drop (e - b)) := by rw [← h1]
    rw [h3, dval_append, h2, show e - (e - b) = b from by omega]
  · rw [show e - b = 0 from by omega]
    simp [dval_nil]
theorem chunk_lt {s : BT} (hs : Dgs s) (b e : Nat) (he : e ≤ s.length) : dval ((s.take e).drop (e - b)) < 10 ^ b := by
  refine Nat.lt_of_lt_of_le (dval_lt ((hs.take e).drop (e - b))) (Nat.pow_le_pow_right (by omega) ?_)
  rw [List.length_drop, List.length_take, Nat.min_eq_left he]; omega

theorem read_step {s : BT} {b e k : Nat} {l : List Nat} (he : e ≤ s.length) (hl : l.length = k) (h : dval s = dval (s.take e) * (10 ^ b) ^ k + wv (10 ^ b) l) :
    dval s = dval (s.take (e - b)) * (10 ^ b) ^ (k + 1) + wv (10 ^ b) (l ++ [dval ((s.take e).drop (e - b))]) := by
  rw [wv_snoc, hl, h, chunk_step s b e he, Nat.pow_succ, Nat.add_mul, Nat.mul_assoc, Nat.mul_comm (10 ^ b) ((10 ^ b) ^ k), Nat.mul_comm (dval ((s.take e).drop (e - b)))]
  omega

theorem drop_wv (B : Nat) (l : List Nat) (i : Nat) (h : i < l.length) : wv B (l.drop i) = l[i] + B * wv B (l.drop (i + 1)) := by
  rw [List.drop_eq_getElem_cons h]; rfl
theorem wds_drop_pos {B n i : Nat} (hB : 2 ≤ B) (h : i < (wds B n).length) : 0 < wv B ((wds B n).drop i) := by
  refine Nat.pos_of_ne_zero fun h0 => ?_
  have h1 := wds_top hB n
  have h2 := (wds_wd hB n).drop i
  have ht : Top ((wds B n).drop i) := by
    intro x hx
    refine h1 x ?_
    rw [List.getLast?_drop, if_neg (by omega)] at hx
    exact hx
  have := wds_of hB h2 ht
  rw [h0, wds_zero] at this
  have := congrArg List.length this
  rw [List.length_drop] at this
  simp at this; omega

theorem write_top {B n i : Nat} (h : i + 1 = (wds B n).length) : wv B ((wds B n).drop i) = (wds B n)[i] := by
  rw [drop_wv B _ i (by omega), List.drop_eq_nil_of_le (by omega)]; simp [wv]

theorem write_next {n i : Nat} (h : i + 1 < (wds (10 ^ 9) n).length) :
    decDigits (wv (10 ^ 9) ((wds (10 ^ 9) n).drop i)) = decDigits (wv (10 ^ 9) ((wds (10 ^ 9) n).drop (i + 1))) ++ (List.replicate (9 - (decDigits (wds (10 ^ 9) n)[i]).length) 48 ++ decDigits (wds (10 ^ 9) n)[i]) := by
  rw [drop_wv _ _ i (by omega), Nat.add_comm, Nat.mul_comm]
  exact dec_word (wds_drop_pos (by omega) h) ((wds_wd (by omega) n).at (by omega)) (by omega)

theorem cmp_lt {B : Nat} {l k : List Nat} (hl : Wd B l) (hlen : l.length = k.length) (i : Nat) (hi : i < l.length) (he : l.drop (i + 1) = k.drop (i + 1)) (hlt : l[i] < k[i]'(hlen ▸ hi)) : wv B l < wv B k := by
  have e1 : wv B l = wv B (l.take i) + B ^ i * wv B (l.drop i) := by
    conv => lhs; rw [← List.take_append_drop i l]
    rw [wv_append, List.length_take, Nat.min_eq_left (by omega)]
  have e2 : wv B k = wv B (k.take i) + B ^ i * wv B (k.drop i) := by
    conv => lhs; rw [← List.take_append_drop i k]
    rw [wv_append, List.length_take, Nat.min_eq_left (by omega)]
  have h1 : wv B (l.take i) < B ^ i := by
    have := wv_lt (hl.take i)
    rwa [List.length_take, Nat.min_eq_left (by omega)] at this
  rw [e1, e2, drop_wv B l i hi, drop_wv B k i (by omega), he]
  have h2 : B ^ i * (l[i] + B * wv B (k.drop (i + 1)) + 1) ≤ B ^ i * (k[i]'(hlen ▸ hi) + B * wv B (k.drop (i + 1))) := Nat.mul_le_mul_left _ (by omega)
  rw [Nat.mul_add] at h2
  omega
theorem cmp_len {B m n : Nat} (hB : 2 ≤ B) (h : (wds B m).length < (wds B n).length) : m < n := by
  refine Nat.lt_of_not_le fun hle => ?_
  have := wds_len_le hB hle
  omega

theorem word_step {B d x Q R V : Nat} (h : V = d * Q + R) : x + B * V = d * ((R * B + x) / d + B * Q) + (R * B + x) % d := by
  have := Nat.mod_add_div (R * B + x) d
  rw [h, Nat.mul_add, Nat.mul_add, ← Nat.mul_assoc d B Q, ← Nat.mul_assoc B d Q, Nat.mul_comm d B, Nat.mul_comm B R]
  omega

theorem wds_at {B : Nat} (hB : 2 ≤ B) : ∀ (n i : Nat), (wds B n).getD i 0 = n / B ^ i % B := by
  intro n
  induction n using Nat.strongRecOn with
  | _ n ih =>
    intro i
    by_cases h : n = 0
    · subst h; rw [wds_zero]; simp
    · rw [wds_pos hB (by omega)]
      cases i with
      | zero => simp
      | succ i =>
        rw [List.getD_cons_succ, ih (n / B) (Nat.div_lt_self (by omega) (by omega)), Nat.pow_succ, Nat.mul_comm, Nat.div_div_eq_div_mul]

theorem guess_ge {B R N k L : Nat} (hB : 2 ≤ B) (hL : 0 < L) (hN : B ^ (L - 1) ≤ N) (hR : R < N * B ^ k * B) (hN2 : N < B ^ L) :
    R / (N * B ^ k) ≤ min ((R / B ^ (L + k) % B * B + R / B ^ (L + k - 1) % B) / (N / B ^ (L - 1) % B)) (B - 1) := by
  have hBk : 0 < B ^ k := Nat.pow_pos (by omega)
  have hBL : 0 < B ^ (L - 1) := Nat.pow_pos (by omega)
  have hNp : 0 < N := Nat.lt_of_lt_of_le hBL hN
  have e1 : B ^ L = B ^ (L - 1) * B := by rw [← Nat.pow_succ]; congr 1; omega
  have e2 : B ^ (L + k) = B ^ (L + k - 1) * B := by rw [← Nat.pow_succ]; congr 1; omega
  have e3 : B ^ (L + k - 1) = B ^ (L - 1) * B ^ k := by rw [← Nat.pow_add]; congr 1; omega
  have hRlt : R < B ^ (L + k) * B := by
    refine Nat.lt_of_lt_of_le hR (Nat.mul_le_mul_right _ ?_)
    rw [Nat.pow_add]
    exact Nat.mul_le_mul_right _ (Nat.le_of_lt hN2)
  have ha : N / B ^ (L - 1) % B = N / B ^ (L - 1) := Nat.mod_eq_of_lt (Nat.div_lt_of_lt_mul (by rw [← e1]; exact hN2))
  have hap : 0 < N / B ^ (L - 1) := Nat.div_pos hN hBL
  have ht : R / B ^ (L + k) % B = R / B ^ (L + k) := Nat.mod_eq_of_lt (Nat.div_lt_of_lt_mul hRlt)
  have hsum : R / B ^ (L + k) % B * B + R / B ^ (L + k - 1) % B = R / B ^ (L + k - 1) := by
    rw [ht, e2, ← Nat.div_div_eq_div_mul, Nat.mul_comm]
    have := Nat.mod_add_div (R / B ^ (L + k - 1)) B
    omega
  rw [hsum, ha]
  refine Nat.le_min.2 ⟨?_, ?_⟩
  · rw [e3, Nat.div_div_eq_div_mul]
    refine Nat.div_le_div_left ?_ (Nat.mul_pos (Nat.mul_pos hBL hBk) hap)
    rw [Nat.mul_assoc, Nat.mul_comm (B ^ k), ← Nat.mul_assoc]
    refine Nat.mul_le_mul_right _ ?_
    rw [Nat.mul_comm]
    exact Nat.div_mul_le_self N _
  · have : R / (N * B ^ k) < B := Nat.div_lt_of_lt_mul hR
    omega

theorem digit_of {R D q : Nat} (hD : 0 < D) (h1 : R / D ≤ q) (h2 : q * D ≤ R) : q = R / D :=
  Nat.le_antisymm ((Nat.le_div_iff_mul_le hD).2 h2) h1
theorem digit_down {R D q : Nat} (hD : 0 < D) (_h1 : R / D ≤ q) (h2 : R < q * D) : 0 < q ∧ R / D ≤ q - 1 := by
  have : R / D < q := (Nat.div_lt_iff_lt_mul hD).2 h2
  exact ⟨Nat.lt_of_le_of_lt (Nat.zero_le _) this, Nat.le_pred_of_lt this⟩

theorem div_step {M N B k R Q : Nat} (h : M = R + N * B ^ (k + 1) * Q) (hq : 0 < N * B ^ k) :
    M = (R - R / (N * B ^ k) * (N * B ^ k)) + N * B ^ k * (Q * B + R / (N * B ^ k)) ∧ R - R / (N * B ^ k) * (N * B ^ k) < N * B ^ k := by
  have h1 := Nat.div_add_mod R (N * B ^ k)
  have h2 := Nat.mod_lt R hq
  have e1 : R / (N * B ^ k) * (N * B ^ k) = N * B ^ k * (R / (N * B ^ k)) := Nat.mul_comm _ _
  have e2 : N * B ^ (k + 1) * Q = N * B ^ k * (Q * B) := by rw [Nat.pow_succ, ← Nat.mul_assoc, Nat.mul_assoc (N * B ^ k), Nat.mul_comm B Q]
  rw [e1, Nat.mul_add, ← e2]
  constructor
  · omega
  · omega

theorem div_scale {m n s Q R : Nat} (hs : 0 < s) (h : m * s = R + n * s * Q) (hR : R < n * s) : Q = m / n ∧ R / s = m % n := by
  have hn : 0 < n := by
    refine Nat.pos_of_ne_zero fun h0 => ?_
    subst h0; simp at hR
  have hQ : Q = m / n := by
    have h1 : m * s / (n * s) = Q := by
      rw [h, Nat.add_mul_div_left _ _ (Nat.mul_pos hn hs), Nat.div_eq_of_lt hR, Nat.zero_add]
    rw [Nat.mul_div_mul_right _ _ hs] at h1
    exact h1.symm
  refine ⟨hQ, ?_⟩
  have h2 : R = m % n * s := by
    have h3 := Nat.div_add_mod m n
    rw [← hQ] at h3
    have h4 : m * s = (n * Q + m % n) * s := by rw [h3]
    rw [Nat.add_mul, Nat.mul_assoc, Nat.mul_comm Q s, ← Nat.mul_assoc] at h4
    omega
  rw [h2, Nat.mul_div_cancel _ hs]

theorem wv_reverse_snoc (B : Nat) (l : List Nat) (q : Nat) : wv B (l ++ [q]).reverse = wv B l.reverse * B + q := by
  rw [List.reverse_append]; simp [wv]; rw [Nat.mul_comm]; omega
end Go.Proofs.YtpinmgoeapakdaaGreatDoor

namespace Go.Proofs.YtpinmgoeapakdaaGreatDoor
open Go.Lib

theorem takeD (B : Nat) (l : List Nat) (k : Nat) : wv B (l.take (k + 1)) = wv B (l.take k) + B ^ k * l.getD k 0 := by
  by_cases h : k < l.length
  · rw [wv_take_succ B l k h, List.getD_eq_getElem?_getD, List.getElem?_eq_getElem h]; rfl
  · rw [List.take_of_length_le (by omega), List.take_of_length_le (by omega), List.getD_eq_getElem?_getD, List.getElem?_eq_none (by omega)]; simp
theorem getD_lt {B : Nat} {l : List Nat} (hB : 0 < B) (h : Wd B l) (k : Nat) : l.getD k 0 < B := by
  rw [List.getD_eq_getElem?_getD]
  by_cases hk : k < l.length
  · rw [List.getElem?_eq_getElem hk]; exact h.at hk
  · rw [List.getElem?_eq_none (by omega)]; simpa using hB
theorem take_wds {B : Nat} (hB : 2 ≤ B) (n k : Nat) (hk : (wds B n).length ≤ k) : wv B ((wds B n).take k) = n := by
  rw [List.take_of_length_le hk, wds_val hB]

def AddAt (B : Nat) (a b : Nat) (k : Nat) (L : List Nat) (c : Nat) : Prop :=
  L.length = k ∧ Wd B L ∧ c ≤ 1 ∧ wv B L + B ^ k * c = wv B ((wds B a).take k) + wv B ((wds B b).take k)
theorem addAt_zero (B a b : Nat) : AddAt B a b 0 [] 0 := ⟨rfl, Wd.nil B, by omega, by simp [wv]⟩
theorem addAt_step {B a b k : Nat} {L : List Nat} {c x y : Nat} (hB : 2 ≤ B) (h : AddAt B a b k L c) (hx : (wds B a).getD k 0 = x) (hy : (wds B b).getD k 0 = y) :
    AddAt B a b (k + 1) (L ++ [(c + (x + y)) % B]) ((c + (x + y)) / B) ∧ x < B ∧ y < B := by
  subst hx; subst hy
  obtain ⟨h1, h2, h3, h4⟩ := h
  have hx := getD_lt (by omega) (wds_wd hB a) k
  have hy := getD_lt (by omega) (wds_wd hB b) k
  refine ⟨⟨by simp [h1], h2.snoc (Nat.mod_lt _ (by omega)), ?_, ?_⟩, hx, hy⟩
  · have : (c + ((wds B a).getD k 0 + (wds B b).getD k 0)) / B < 2 := Nat.div_lt_of_lt_mul (by omega)
    omega
  · rw [wv_snoc, h1, takeD, takeD, ← Nat.add_assoc c]
    have := add_step (x := (wds B a).getD k 0) (y := (wds B b).getD k 0) h4
    rw [this]; omega
theorem addAt_end {B a b k : Nat} {L : List Nat} {c : Nat} (hB : 2 ≤ B) (h : AddAt B a b k L c) (ha : (wds B a).length < k) (hb : (wds B b).length < k) : c = 0 ∧ wv B L = a + b := by
  obtain ⟨h1, h2, h3, h4⟩ := h
  rw [take_wds hB a k (by omega), take_wds hB b k (by omega)] at h4
  obtain ⟨j, rfl⟩ : ∃ j, k = j + 1 := ⟨k - 1, by omega⟩
  have ha' : a < B ^ j := Nat.lt_of_lt_of_le (wds_lt hB a) (Nat.pow_le_pow_right (by omega) (by omega))
  have hb' : b < B ^ j := Nat.lt_of_lt_of_le (wds_lt hB b) (Nat.pow_le_pow_right (by omega) (by omega))
  have hp : B ^ j * 2 ≤ B ^ (j + 1) := by rw [Nat.pow_succ]; exact Nat.mul_le_mul_left _ hB
  obtain rfl | rfl : c = 0 ∨ c = 1 := by omega
  · simp at h4; exact ⟨rfl, h4⟩
  · simp at h4; omega

def SubAt (B : Nat) (a b : Nat) (k : Nat) (L : List Nat) (c : Nat) : Prop :=
  L.length = k ∧ Wd B L ∧ c ≤ 1 ∧ wv B L + wv B ((wds B b).take k) = wv B ((wds B a).take k) + B ^ k * c
theorem subAt_zero (B a b : Nat) : SubAt B a b 0 [] 0 := ⟨rfl, Wd.nil B, by omega, by simp [wv]⟩
theorem sub_num {P x y c t q r B : Nat} (h : r + B * q = x + B - y - c) (hy : y + c ≤ x + B) (hq : q ≤ 1) (ht : t = 1 - q) : P * r + P * y + P * c = P * x + P * B * t := by
  have h1 : r + y + c + B * q = x + B := by omega
  have h2 := congrArg (P * ·) h1
  simp only [Nat.mul_add] at h2
  subst ht
  obtain rfl | rfl : q = 0 ∨ q = 1 := by omega
  · simp at h2 ⊢; omega
  · simp at h2 ⊢; omega
theorem subAt_step {B a b k : Nat} {L : List Nat} {c x y : Nat} (hB : 2 ≤ B) (h : SubAt B a b k L c) (hx : (wds B a).getD k 0 = x) (hy : (wds B b).getD k 0 = y) :
    SubAt B a b (k + 1) (L ++ [(x + (B - y - c)) % B]) (1 - (x + (B - y - c)) / B) ∧ x < B ∧ y < B ∧ y + c ≤ B ∧ (x + (B - y - c)) / B ≤ 1 := by
  subst hx; subst hy
  obtain ⟨h1, h2, h3, h4⟩ := h
  have hx := getD_lt (by omega) (wds_wd hB a) k
  have hy := getD_lt (by omega) (wds_wd hB b) k
  have hq : ((wds B a).getD k 0 + (B - (wds B b).getD k 0 - c)) / B < 2 := Nat.div_lt_of_lt_mul (by omega)
  refine ⟨⟨by simp [h1], h2.snoc (Nat.mod_lt _ (by omega)), Nat.sub_le _ _, ?_⟩, hx, hy, by omega, Nat.le_of_lt_succ hq⟩
  rw [wv_snoc, h1, takeD, takeD]
  have e := Nat.mod_add_div ((wds B a).getD k 0 + (B - (wds B b).getD k 0 - c)) B
  have := sub_num (P := B ^ k) (x := (wds B a).getD k 0) (y := (wds B b).getD k 0) (c := c) (t := 1 - ((wds B a).getD k 0 + (B - (wds B b).getD k 0 - c)) / B) (B := B) (e.trans (by omega)) (by omega) (Nat.le_of_lt_succ hq) rfl
  rw [Nat.pow_succ]
  omega
theorem subAt_end {B a b k : Nat} {L : List Nat} {c : Nat} (hB : 2 ≤ B) (h : SubAt B a b k L c) (hk : (wds B a).length = k) (hab : b ≤ a) : c = 0 ∧ wv B L = a - b := by
  obtain ⟨h1, h2, h3, h4⟩ := h
  have hbl := wds_len_le hB hab
  rw [take_wds hB a k (by omega), take_wds hB b k (by omega)] at h4
  have hl := wv_lt h2
  rw [h1] at hl
  obtain rfl | rfl : c = 0 ∨ c = 1 := by omega
  · simp at h4; exact ⟨rfl, by omega⟩
  · simp at h4; omega

def MulAt (B : Nat) (V v n i j : Nat) (O : List Nat) (c : Nat) : Prop :=
  Wd B O ∧ c < B ∧ wv B O + B ^ (i + j) * c = V + B ^ i * (v * wv B ((wds B n).take j))
theorem mul_lt {B v y c o : Nat} (hv : v < B) (hy : y < B) (hc : c < B) (ho : o < B) : c + (o + v * y) < B * B := by
  have h1 : v * y ≤ (B - 1) * (B - 1) := Nat.mul_le_mul (by omega) (by omega)
  obtain ⟨k, rfl⟩ : ∃ k, B = k + 1 := ⟨B - 1, by omega⟩
  simp only [Nat.add_sub_cancel] at h1
  have : (k + 1) * (k + 1) = k * k + k + k + 1 := by rw [Nat.mul_add, Nat.add_mul]; omega
  omega
theorem mulAt_zero {B V v n i : Nat} {O : List Nat} (hB : 2 ≤ B) (h : Wd B O) (hv : wv B O = V) : MulAt B V v n i 0 O 0 := ⟨h, by omega, by simp [wv, hv]⟩
theorem mulAt_step {B V v n i j : Nat} {O : List Nat} {c o y : Nat} (hB : 2 ≤ B) (h : MulAt B V v n i j O c) (hk : i + j < O.length) (ho : O[i + j] = o) (hy : (wds B n).getD j 0 = y) (hv : v < B) :
    MulAt B V v n i (j + 1) (O.set (i + j) ((c + (o + v * y)) % B)) ((c + (o + v * y)) / B) ∧ c + (o + v * y) < B * B ∧ y < B ∧ o < B := by
  subst ho; subst hy
  obtain ⟨h1, h2, h3⟩ := h
  have hy := getD_lt (by omega) (wds_wd hB n) j
  have ho := h1.at hk
  have hlt := mul_lt hv hy h2 ho
  refine ⟨⟨h1.set (Nat.mod_lt _ (by omega)) _, Nat.div_lt_of_lt_mul hlt, ?_⟩, hlt, hy, ho⟩
  have hs := wv_set (B := B) hk ((c + (O[i + j] + v * (wds B n).getD j 0)) % B)
  have e := Nat.mod_add_div (c + (O[i + j] + v * (wds B n).getD j 0)) B
  have e2 := congrArg (B ^ (i + j) * ·) e
  simp only [Nat.mul_add] at e2
  rw [takeD, Nat.mul_add v, Nat.mul_add (B ^ i)]
  have e4 : B ^ i * (v * (B ^ j * (wds B n).getD j 0)) = B ^ (i + j) * (v * (wds B n).getD j 0) := by
    rw [Nat.pow_add, Nat.mul_assoc (B ^ i)]; congr 1
    rw [← Nat.mul_assoc, ← Nat.mul_assoc, Nat.mul_comm v]
  have e5 : B ^ (i + (j + 1)) * ((c + (O[i + j] + v * (wds B n).getD j 0)) / B) = B ^ (i + j) * (B * ((c + (O[i + j] + v * (wds B n).getD j 0)) / B)) := by
    rw [← Nat.add_assoc, Nat.pow_succ, Nat.mul_assoc]
  rw [e4, e5]
  omega

theorem mulAt_end {B v n m i j : Nat} {O : List Nat} {c : Nat} (hB : 2 ≤ B) (h : MulAt B (wv B ((wds B m).take i) * n) v n i j O c) (hj : (wds B n).length < j) (hi : i < (wds B m).length) (hv : (wds B m).getD i 0 = v) :
    c = 0 ∧ wv B O = wv B ((wds B m).take (i + 1)) * n := by
  subst hv
  obtain ⟨h1, h2, h3⟩ := h
  rw [take_wds hB n j (by omega)] at h3
  have e : wv B ((wds B m).take (i + 1)) * n = wv B ((wds B m).take i) * n + B ^ i * ((wds B m).getD i 0 * n) := by rw [takeD, Nat.add_mul, Nat.mul_assoc]
  rw [← e] at h3
  have hlt : wv B ((wds B m).take (i + 1)) < B ^ (i + 1) := by
    have := wv_lt ((wds_wd hB m).take (i + 1))
    rwa [List.length_take, Nat.min_eq_left (by omega)] at this
  have hn : n < B ^ (j - 1) := Nat.lt_of_lt_of_le (wds_lt hB n) (Nat.pow_le_pow_right (by omega) (by omega))
  have hprod : wv B ((wds B m).take (i + 1)) * n < B ^ (i + j) := by
    have : B ^ (i + j) = B ^ (i + 1) * B ^ (j - 1) := by rw [← Nat.pow_add]; congr 1; omega
    rw [this]
    exact Nat.mul_lt_mul'' hlt hn
  obtain rfl | hc : c = 0 ∨ 1 ≤ c := by omega
  · simp at h3; exact ⟨rfl, h3⟩
  · have := Nat.mul_le_mul_left (B ^ (i + j)) hc
    omega
end Go.Proofs.YtpinmgoeapakdaaGreatDoor

namespace Go.Proofs.YtpinmgoeapakdaaGreatDoor
open Go.Lib

theorem subAt_up {B a b k : Nat} {L : List Nat} {c x y : Nat} (hB : 2 ≤ B) (h : SubAt B a b k L c) (hx : (wds B a).getD k 0 = x) (hy : (wds B b).getD k 0 = y) (hle : y + c ≤ x) : SubAt B a b (k + 1) (L ++ [x - c - y]) 0 := by
  obtain ⟨h1, h2, h3, h4, h5⟩ := subAt_step hB h hx hy
  have e : x + (B - y - c) = (x - c - y) + B := by omega
  have e1 : (x + (B - y - c)) % B = x - c - y := by rw [e, Nat.add_mod_right]; exact Nat.mod_eq_of_lt (by omega)
  have e2 : (x + (B - y - c)) / B = 1 := by rw [e, Nat.add_div_right _ (by omega), Nat.div_eq_of_lt (by omega)]
  rw [e1, e2] at h1
  exact h1
theorem subAt_dn {B a b k : Nat} {L : List Nat} {c x y : Nat} (hB : 2 ≤ B) (h : SubAt B a b k L c) (hx : (wds B a).getD k 0 = x) (hy : (wds B b).getD k 0 = y) (hle : x < y + c) : SubAt B a b (k + 1) (L ++ [x + B - c - y]) 1 := by
  obtain ⟨h1, h2, h3, h4, h5⟩ := subAt_step hB h hx hy
  have e : x + (B - y - c) = x + B - c - y := by omega
  have hlt : x + B - c - y < B := by omega
  rw [e, Nat.mod_eq_of_lt hlt, Nat.div_eq_of_lt hlt] at h1
  exact h1

theorem addAt_stop {B a b k : Nat} {L : List Nat} (hB : 2 ≤ B) (h : AddAt B a b k L 0) (ha : (wds B a).length ≤ k) (hb : (wds B b).length ≤ k) : wv B L = a + b := by
  obtain ⟨h1, h2, h3, h4⟩ := h
  rw [take_wds hB a k ha, take_wds hB b k hb] at h4
  simpa using h4
theorem addAt_len {B a b k : Nat} {L : List Nat} {c : Nat} (hB : 2 ≤ B) (h : AddAt B a b k L c) (hc : 0 < c) : k ≤ (wds B a).length ∨ k ≤ (wds B b).length := by
  by_cases h1 : (wds B a).length < k
  · by_cases h2 : (wds B b).length < k
    · have := (addAt_end hB h h1 h2).1; omega
    · exact .inr (by omega)
  · exact .inl (by omega)
theorem mulAt_stop {B v n m i j : Nat} {O : List Nat} (hB : 2 ≤ B) (h : MulAt B (wv B ((wds B m).take i) * n) v n i j O 0) (hj : (wds B n).length ≤ j) (hv : (wds B m).getD i 0 = v) : wv B O = wv B ((wds B m).take (i + 1)) * n := by
  subst hv
  obtain ⟨h1, h2, h3⟩ := h
  rw [take_wds hB n j hj, Nat.mul_zero, Nat.add_zero] at h3
  rw [h3, takeD, Nat.add_mul, Nat.mul_assoc]

theorem text_digits (V x : Nat) (_hx : x < 10000) :
    10 * V + x / 1000 = V * 10 + x / 1000 ∧ 10 * (V * 10 + x / 1000) + x % 1000 / 100 = V * 100 + x / 100 ∧ 10 * (V * 100 + x / 100) + x % 1000 % 100 / 10 = V * 1000 + x / 10 ∧ 10 * (V * 1000 + x / 10) + x % 1000 % 100 % 10 / 1 = V * 10000 + x := by omega

theorem long_step {v T d : Nat} (hT : 0 < T) : (10 * v + d) / T = 10 * (v / T) + (10 * (v % T) + d) / T ∧ (10 * v + d) % T = (10 * (v % T) + d) % T := by
  have e : 10 * v + d = T * (10 * (v / T)) + (10 * (v % T) + d) := by
    have := Nat.div_add_mod v T
    have h2 := congrArg (10 * ·) this
    simp only [Nat.mul_add] at h2
    rw [← Nat.mul_assoc, Nat.mul_comm T 10, Nat.mul_assoc]
    omega
  rw [e]
  exact ⟨Nat.mul_add_div hT _ _, Nat.mul_add_mod _ _ _⟩
theorem long_lt {v T d : Nat} (hT : 0 < T) (hd : d < 10) : (10 * (v % T) + d) / T < 10 := by
  refine Nat.div_lt_of_lt_mul ?_
  have := Nat.mod_lt v hT
  omega
theorem decZ_eq {n : Nat} : (if decZ n = [] then [48] else decZ n) = decDigits n := by
  by_cases h : n = 0
  · subst h; rw [decZ_zero, dec_zero]; rfl
  · rw [decZ_pos (by omega), if_neg (dec_ne n)]
theorem decZ_back {n : Nat} (h : 0 < n) : decZ n = decZ (n / 10) ++ [dg1 (n % 10)] := by
  have := decZ_step (v := n / 10) (d := n % 10) (by omega) (by omega)
  rw [← this, show 10 * (n / 10) + n % 10 = n from by omega]

theorem dec_cmp_len {m n : Nat} (h : (decDigits m).length < (decDigits n).length) : m < n := by
  refine Nat.lt_of_not_le fun hle => ?_
  have h1 := (dec_len_iff (n := m) (k := (decDigits m).length) (dec_pos m)).1 (Nat.le_refl _)
  have h2 := (dec_len_iff (n := n) (k := (decDigits m).length) (dec_pos m)).2 (by omega)
  omega
theorem dval_cmp {l k : BT} (hd : Dgs l) (hd' : Dgs k) (hlen : l.length = k.length) (i : Nat) (hi : i < l.length) (he : l.take i = k.take i) (hlt : l[i].toNat < (k[i]'(hlen ▸ hi)).toNat) : dval l < dval k := by
  have e1 : dval l = dval (l.take (i + 1)) * 10 ^ (l.length - (i + 1)) + dval (l.drop (i + 1)) := by
    conv => lhs; rw [← List.take_append_drop (i + 1) l]
    rw [dval_append, List.length_drop]
  have e2 : dval k = dval (k.take (i + 1)) * 10 ^ (l.length - (i + 1)) + dval (k.drop (i + 1)) := by
    conv => lhs; rw [← List.take_append_drop (i + 1) k]
    rw [dval_append, List.length_drop, hlen]
  have h1 := dval_lt (hd.drop (i + 1))
  rw [List.length_drop] at h1
  have h3 : dval (l.take (i + 1)) + 1 ≤ dval (k.take (i + 1)) := by
    rw [dval_take_succ l i hi, dval_take_succ k i (by omega), he]
    have a := isDg_iff.1 (hd l[i] (List.getElem_mem hi))
    have b := isDg_iff.1 (hd' (k[i]'(hlen ▸ hi)) (List.getElem_mem _))
    omega
  have h4 := Nat.mul_le_mul_right (10 ^ (l.length - (i + 1))) h3
  rw [Nat.add_mul] at h4
  rw [e1, e2]
  omega
end Go.Proofs.YtpinmgoeapakdaaGreatDoor

namespace Go.Proofs.YtpinmgoeapakdaaGreatDoor
open Go.Lib

def cut10 : BT := [48, 49, 50, 51, 52, 53, 54, 55, 56, 57]
theorem cut10_has (c : UInt8) : cut10.contains c = isDg c := by
  rw [Bool.eq_iff_iff, isDg_iff]
  simp only [cut10, List.contains_iff_mem, List.mem_cons, List.not_mem_nil, or_false]
  constructor
  · rintro (rfl | rfl | rfl | rfl | rfl | rfl | rfl | rfl | rfl | rfl) <;> decide
  · rintro ⟨h1, h2⟩
    have : c.toNat = 48 ∨ c.toNat = 49 ∨ c.toNat = 50 ∨ c.toNat = 51 ∨ c.toNat = 52 ∨ c.toNat = 53 ∨ c.toNat = 54 ∨ c.toNat = 55 ∨ c.toNat = 56 ∨ c.toNat = 57 := by omega
    rcases this with h | h | h | h | h | h | h | h | h | h <;> (simp only [← UInt8.toNat_inj, h]; decide)
theorem dropWhile_keeps {p : UInt8 → Bool} {l : BT} {c : UInt8} (h : c ∈ l) (hp : p c = false) : c ∈ l.dropWhile p := by
  rw [← List.takeWhile_append_dropWhile (p := p) (l := l)] at h
  rcases List.mem_append.1 h with h | h
  · have := List.all_eq_true.1 (List.all_takeWhile (p := p) (l := l)) c h
    rw [hp] at this; cases this
  · exact h
theorem dropWhile_all {p : UInt8 → Bool} : ∀ {l : BT}, (∀ c ∈ l, p c = true) → l.dropWhile p = []
  | [], _ => rfl
  | c :: t, h => by
    rw [List.dropWhile_cons, if_pos (h c (by simp))]
    exact dropWhile_all fun x hx => h x (by simp [hx])
theorem trim_digits {s : BT} : trimS s cut10 = [] ↔ Dgs s := by
  unfold trimS trimLeftS trimRightS
  constructor
  · intro h c hc
    cases hd : isDg c with
    | true => rfl
    | false =>
      have h1 : c ∈ s.reverse.dropWhile (cut10.contains ·) := dropWhile_keeps (by simpa using hc) (by rw [cut10_has]; exact hd)
      have h2 : c ∈ ((s.reverse.dropWhile (cut10.contains ·)).reverse).dropWhile (cut10.contains ·) := dropWhile_keeps (by simpa using h1) (by rw [cut10_has]; exact hd)
      rw [h] at h2; cases h2
  · intro h
    have : s.reverse.dropWhile (cut10.contains ·) = [] := dropWhile_all fun c hc => by
      rw [cut10_has]; exact h c (by simpa using hc)
    rw [this]; rfl

theorem digits_cons {acc : Nat} (c : UInt8) (r : BT) : acc * 10 ^ (c :: r).length + dval (c :: r) = (acc * 10 + (c.toNat - 48)) * 10 ^ r.length + dval r := by
  rw [show c :: r = [c] ++ r from rfl, dval_append, dval_one, List.length_append, List.length_singleton, Nat.add_comm 1, Nat.pow_succ, Nat.add_mul, Nat.mul_comm (10 ^ r.length) 10, ← Nat.mul_assoc, Nat.add_assoc]
theorem parseM_digits : ∀ (l : BT) (acc : Nat), Dgs l → acc * 10 ^ l.length + dval l ≤ 18446744073709551615 → parseUintM (2 ^ 64 - 1) acc l = .ok (acc * 10 ^ l.length + dval l)
  | [], acc, _, _ => by simp [parseUintM, dval_nil]
  | c :: r, acc, hd, hle => by
    have hc := isDg_iff.1 (hd c (by simp))
    rw [digits_cons] at hle ⊢
    have h1 : acc * 10 + (c.toNat - 48) ≤ 18446744073709551615 := by
      have := Nat.le_mul_of_pos_right (acc * 10 + (c.toNat - 48)) (Nat.pow_pos (n := r.length) (show 0 < 10 by omega))
      omega
    unfold parseUintM
    rw [if_pos hc, if_neg (by omega), if_neg (by omega)]
    exact parseM_digits r _ (fun x hx => hd x (by simp [hx])) hle
theorem parseB_digits {l : BT} (hd : Dgs l) (h0 : l ≠ []) (hl : l.length ≤ 18) : parseUintB 64 l = .ok (dval l) := by
  unfold parseUintB
  have h1 := dval_lt hd
  have h2 : 10 ^ l.length ≤ 10 ^ 18 := Nat.pow_le_pow_right (by omega) hl
  rw [if_neg h0, parseM_digits l 0 hd (by omega)]
  simp
theorem parse10_digits : ∀ (l : BT) (acc : Nat), Dgs l → parseUint10 acc l = if acc * 10 ^ l.length + dval l < 18446744073709551616 ∨ l = [] then .ok (acc * 10 ^ l.length + dval l) else .range
  | [], acc, _ => by simp [parseUint10, dval_nil]
  | c :: r, acc, hd => by
    have hc := isDg_iff.1 (hd c (by simp))
    have hp := Nat.pow_pos (n := r.length) (show 0 < 10 by omega)
    have h1 := Nat.le_mul_of_pos_right (acc * 10 + (c.toNat - 48)) hp
    have ih := parse10_digits r (acc * 10 + (c.toNat - 48)) (fun x hx => hd x (by simp [hx]))
    rw [digits_cons]
    unfold parseUint10
    rw [if_pos hc]
    by_cases h2 : 1844674407370955162 ≤ acc
    · rw [if_pos h2, if_neg (by simp; omega)]
    · rw [if_neg h2]
      by_cases h3 : 18446744073709551616 ≤ acc * 10 + (c.toNat - 48)
      · rw [if_pos h3, if_neg (by simp; omega)]
      · rw [if_neg h3, ih]
        cases r with
        | nil => simp [dval_nil]; omega
        | cons x t => simp
theorem parseMag_dec (n : Nat) : parseMag (decDigits n) = if n < 18446744073709551616 then .ok n else .range := by
  unfold parseMag
  rw [if_neg (dec_ne n), parse10_digits _ _ (dec_dgs n), dec_val]
  simp [dec_ne n]

theorem atoi_itoa (z : Int) : atoiAll (itoa z) = if -9223372036854775808 ≤ z ∧ z ≤ 9223372036854775807 then .ok z else .range := by
  by_cases h : z < 0
  · rw [itoa_neg' h]
    unfold atoiAll
    simp only [show (45 : UInt8).toNat = 45 from rfl, or_true, if_true]
    rw [parseMag_dec]
    by_cases h1 : z.natAbs < 18446744073709551616
    · rw [if_pos h1]
      simp only [not_true, false_and, if_false, true_and]
      by_cases h2 : 9223372036854775808 < z.natAbs
      · rw [if_pos h2, if_neg (by omega)]
      · rw [if_neg h2, if_pos (by omega)]
        congr 1; omega
    · rw [if_neg h1, if_neg (by omega)]
  · rw [itoa_pos' (by omega)]
    obtain ⟨c, t, e, hc⟩ := dec_head45 z.natAbs
    have hd := dec_dgs z.natAbs
    rw [e] at hd
    have hcd := isDg_iff.1 (hd c (by simp))
    rw [e]
    unfold atoiAll
    simp only
    rw [if_neg (by omega), ← e, parseMag_dec]
    by_cases h1 : z.natAbs < 18446744073709551616
    · rw [if_pos h1]
      simp only [show ¬ c.toNat = 45 from by omega, not_false_eq_true, true_and, false_and, if_false]
      by_cases h2 : 9223372036854775808 ≤ z.natAbs
      · rw [if_pos h2, if_neg (by omega)]
      · rw [if_neg h2, if_pos (by omega)]
        congr 1; omega
    · rw [if_neg h1, if_neg (by omega)]
end Go.Proofs.YtpinmgoeapakdaaGreatDoor

namespace Go.Proofs.YtpinmgoeapakdaaGreatDoor

theorem sum_same {x y : Int} (h : decide (x < 0) = decide (y < 0)) : (x + y).natAbs = x.natAbs + y.natAbs ∧ decide (x + y < 0) = decide (x < 0) := by
  rw [decide_eq_decide] at h
  refine ⟨by omega, ?_⟩
  rw [decide_eq_decide]; omega
theorem sum_diff {x y : Int} (h : ¬ decide (x < 0) = decide (y < 0)) (hle : y.natAbs ≤ x.natAbs) : (x + y).natAbs = x.natAbs - y.natAbs ∧ decide (x + y < 0) = (decide (x < 0) && decide (0 < x.natAbs - y.natAbs)) := by
  rw [decide_eq_decide] at h
  refine ⟨by omega, ?_⟩
  rw [Bool.eq_iff_iff, Bool.and_eq_true, decide_eq_true_eq, decide_eq_true_eq, decide_eq_true_eq]; omega
theorem prod_sign (x y : Int) : (x * y).natAbs = x.natAbs * y.natAbs ∧ decide (x * y < 0) = ((decide (x < 0) != decide (y < 0)) && decide (0 < (x * y).natAbs)) := by
  refine ⟨Int.natAbs_mul x y, ?_⟩
  rcases Int.lt_trichotomy x 0 with hx | hx | hx
  · rcases Int.lt_trichotomy y 0 with hy | hy | hy
    · have := Int.mul_pos_of_neg_of_neg hx hy
      rw [decide_eq_false (by omega), decide_eq_true hx, decide_eq_true hy]; rfl
    · subst hy; simp
    · have := Int.mul_neg_of_neg_of_pos hx hy
      rw [decide_eq_true this, decide_eq_true hx, decide_eq_false (by omega), decide_eq_true (by omega)]; rfl
  · subst hx; simp
  · rcases Int.lt_trichotomy y 0 with hy | hy | hy
    · have := Int.mul_neg_of_pos_of_neg hx hy
      rw [decide_eq_true this, decide_eq_false (by omega), decide_eq_true hy, decide_eq_true (by omega)]; rfl
    · subst hy; simp
    · have := Int.mul_pos hx hy
      rw [decide_eq_false (by omega), decide_eq_false (by omega), decide_eq_false (by omega)]; rfl

def FD (x y Q R : Int) : Prop := x = y * Q + R ∧ (0 < y → 0 ≤ R ∧ R < y) ∧ (y < 0 → y < R ∧ R ≤ 0)
theorem fd_unique {x y Q R Q' R' : Int} (hy : y ≠ 0) (h : FD x y Q R) (h' : FD x y Q' R') : Q = Q' ∧ R = R' := by
  obtain ⟨h1, h2, h3⟩ := h
  obtain ⟨h1', h2', h3'⟩ := h'
  have e : y * (Q - Q') = R' - R := by rw [Int.mul_sub]; omega
  have hq : Q - Q' = 0 := by
    by_cases hc : Q - Q' = 0
    · exact hc
    · exfalso
      have hab := congrArg Int.natAbs e
      rw [Int.natAbs_mul] at hab
      have h4 : y.natAbs ≤ y.natAbs * (Q - Q').natAbs := Nat.le_mul_of_pos_right _ (by omega)
      rcases Int.lt_trichotomy y 0 with hy' | hy' | hy'
      · have := h3 hy'; have := h3' hy'; omega
      · exact hy hy'
      · have := h2 hy'; have := h2' hy'; omega
  rw [hq, Int.mul_zero] at e
  omega
theorem fd_spec (x : Int) {y : Int} (_ : y ≠ 0) : FD x y (x.fdiv y) (x.fmod y) := by
  refine ⟨by have := Int.mul_fdiv_add_fmod x y; omega, fun h => ⟨Int.fmod_nonneg_of_pos x h, Int.fmod_lt_of_pos x h⟩, fun h => ?_⟩
  have h1 : x.fmod y = - ((-x).fmod (-y)) := by rw [Int.neg_fmod_neg]; omega
  have h2 := Int.fmod_nonneg_of_pos (-x) (show 0 < -y by omega)
  have h3 := Int.fmod_lt_of_pos (-x) (show 0 < -y by omega)
  omega

theorem fd_exact {x y : Int} (hy : y ≠ 0) (h : decide (x < 0) = decide (y < 0) ∨ x.natAbs % y.natAbs = 0) :
    (x.fdiv y).natAbs = x.natAbs / y.natAbs ∧ decide (x.fdiv y < 0) = ((decide (x < 0) != decide (y < 0)) && decide (0 < x.natAbs / y.natAbs)) ∧
    (x.fmod y).natAbs = x.natAbs % y.natAbs ∧ decide (x.fmod y < 0) = (decide (y < 0) && decide (0 < x.natAbs % y.natAbs)) := by
  have hd := Nat.div_add_mod x.natAbs y.natAbs
  have hr := Nat.mod_lt x.natAbs (show 0 < y.natAbs by omega)
  generalize x.natAbs / y.natAbs = q at *
  generalize x.natAbs % y.natAbs = r at *
  have hd' : (y.natAbs : Int) * q + r = x.natAbs := by exact_mod_cast hd
  by_cases hs : decide (x < 0) = decide (y < 0)
  · have hs' := decide_eq_decide.1 hs
    have hfd : FD x y q (if y < 0 then -(r : Int) else r) := by
      by_cases hy0 : y < 0
      · rw [if_pos hy0]
        rw [show (y.natAbs : Int) = -y by omega, Int.neg_mul] at hd'
        exact ⟨by omega, by omega, by omega⟩
      · rw [if_neg hy0]
        rw [show (y.natAbs : Int) = y by omega] at hd'
        exact ⟨by omega, by omega, by omega⟩
    obtain ⟨e1, e2⟩ := fd_unique hy (fd_spec x hy) hfd
    rw [e1, e2, hs]
    refine ⟨by omega, ?_, ?_, ?_⟩
    · rw [decide_eq_false (by omega)]; simp
    · split <;> omega
    · by_cases hy0 : y < 0
      · rw [if_pos hy0, decide_eq_true hy0, Bool.true_and, decide_eq_decide]; omega
      · rw [if_neg hy0, decide_eq_false hy0, decide_eq_false (by omega)]; rfl
  · have hr0 : r = 0 := by rcases h with h | h; exact absurd h hs; exact h
    subst hr0
    have hs' : ¬ (x < 0 ↔ y < 0) := fun h => hs (decide_eq_decide.2 h)
    have hfd : FD x y (-(q : Int)) 0 := by
      refine ⟨?_, by omega, by omega⟩
      by_cases hy0 : y < 0
      · rw [show (y.natAbs : Int) = -y by omega, Int.neg_mul] at hd'
        rw [Int.mul_neg]; omega
      · rw [show (y.natAbs : Int) = y by omega] at hd'
        rw [Int.mul_neg]; omega
    obtain ⟨e1, e2⟩ := fd_unique hy (fd_spec x hy) hfd
    rw [e1, e2]
    refine ⟨by omega, ?_, rfl, by simp⟩
    have : (decide (x < 0) != decide (y < 0)) = true := by simpa using hs
    rw [this, Bool.true_and, decide_eq_decide]; omega

theorem fd_round {x y : Int} (hy : y ≠ 0) (hs : ¬ decide (x < 0) = decide (y < 0)) (hr0 : 0 < x.natAbs % y.natAbs) :
    (x.fdiv y).natAbs = x.natAbs / y.natAbs + 1 ∧ decide (x.fdiv y < 0) = true ∧
    (x.fmod y).natAbs = y.natAbs - x.natAbs % y.natAbs ∧ 0 < y.natAbs - x.natAbs % y.natAbs ∧ decide (x.fmod y < 0) = decide (y < 0) := by
  have hd := Nat.div_add_mod x.natAbs y.natAbs
  have hr := Nat.mod_lt x.natAbs (show 0 < y.natAbs by omega)
  generalize x.natAbs / y.natAbs = q at *
  generalize x.natAbs % y.natAbs = r at *
  have hd' : (y.natAbs : Int) * q + r = x.natAbs := by exact_mod_cast hd
  have hs' : ¬ (x < 0 ↔ y < 0) := fun h => hs (decide_eq_decide.2 h)
  have hfd : FD x y (-((q : Int) + 1)) (if y < 0 then y + r else y - r) := by
    by_cases hy0 : y < 0
    · rw [if_pos hy0]
      rw [show (y.natAbs : Int) = -y by omega, Int.neg_mul] at hd'
      refine ⟨?_, by omega, by omega⟩
      rw [Int.mul_neg, Int.mul_add]; omega
    · rw [if_neg hy0]
      rw [show (y.natAbs : Int) = y by omega] at hd'
      refine ⟨?_, by omega, by omega⟩
      rw [Int.mul_neg, Int.mul_add]; omega
  obtain ⟨e1, e2⟩ := fd_unique hy (fd_spec x hy) hfd
  rw [e1, e2]
  refine ⟨by omega, decide_eq_true (by omega), ?_, by omega, ?_⟩
  · split <;> omega
  · rw [decide_eq_decide]; split <;> omega
end Go.Proofs.YtpinmgoeapakdaaGreatDoor

namespace Go.Proofs.YtpinmgoeapakdaaGreatDoor
open Go.Lib

def valI (s : BT) : Int := if negT s then -(dval (bodyT s) : Int) else (dval (bodyT s) : Int)
theorem valI_itoa (z : Int) : valI (itoa z) = z := by
  unfold valI
  rw [negT_itoa, bodyT_itoa, dec_val]
  by_cases h : z < 0
  · rw [decide_eq_true h, if_pos rfl]; omega
  · rw [decide_eq_false h, if_neg (by simp)]; omega

def chk2 (s t : BT) : Int := if chkI s ≠ 0 then chkI s else chkI t
theorem chk2_zero {s t : BT} : chk2 s t = 0 ↔ chkI s = 0 ∧ chkI t = 0 := by
  unfold chk2
  by_cases h : chkI s = 0
  · rw [if_neg (by simpa using h)]; simp [h]
  · rw [if_pos h]; simp [h]
theorem chk2_itoa {x y : Int} (hx : Fit x) (hy : Fit y) : chk2 (itoa x) (itoa y) = 0 := chk2_zero.2 ⟨chkI_fit hx, chkI_fit hy⟩
theorem valI_ok {s : BT} (h : chkI s = 0) : s = itoa (valI s) ∧ Fit (valI s) := by
  obtain ⟨z, rfl, hz⟩ := chkI_ok h
  rw [valI_itoa]
  exact ⟨rfl, hz⟩

def opT (op : Int → Int → Int) (s t : BT) : BT × Int := if chk2 s t ≠ 0 then ([], chk2 s t) else longT (op (valI s) (valI t))

def divT (op : Int → Int → Int) (s t : BT) : BT × Int := if chk2 s t ≠ 0 then ([], chk2 s t) else if valI t = 0 then ([], 15) else longT (op (valI s) (valI t))
theorem pow_nine {e k : Nat} (h : e ≤ 9 * k) : (10 : Nat) ^ e ≤ 1000000000 ^ k := by
  rw [show (1000000000 : Nat) = 10 ^ 9 from rfl, ← Nat.pow_mul]
  exact Nat.pow_le_pow_right (by omega) h
theorem nine_len {e k n : Nat} (h : n < 10 ^ e) (h2 : e ≤ 9 * k) : (wds 1000000000 n).length ≤ k :=
  wds_len_of_lt (by omega) (Nat.lt_of_lt_of_le h (pow_nine h2))
theorem fit_len {z : Int} (h : Fit z) : (wds 1000000000 z.natAbs).length ≤ 456 := by
  unfold Fit at h
  exact nine_len (e := 4096) h (by decide)
theorem big_len {z : Int} (h : z.natAbs < 10 ^ 8200) : (wds 1000000000 z.natAbs).length ≤ 1000 := by
  exact nine_len (e := 8200) h (by decide)

def Bounded (op : Int → Int → Int) : Prop := ∀ x y, Fit x → Fit y → (op x y).natAbs < 10 ^ 8200
theorem pow_times {a b c : Nat} (h : a + b ≤ c) : (10 : Nat) ^ a * 10 ^ b ≤ 10 ^ c := by
  rw [← Nat.pow_add]
  exact Nat.pow_le_pow_right (by omega) h
theorem pow_plus {a c : Nat} (h : a + 1 ≤ c) : (10 : Nat) ^ a + 10 ^ a ≤ 10 ^ c := by
  have h1 : (10 : Nat) ^ (a + 1) = 10 * 10 ^ a := by rw [Nat.pow_succ, Nat.mul_comm]
  have h2 : (10 : Nat) ^ (a + 1) ≤ 10 ^ c := Nat.pow_le_pow_right (by omega) h
  generalize (10 : Nat) ^ a = A at *
  omega
theorem pow_big : (10 : Nat) ^ 4096 * 10 ^ 4096 ≤ 10 ^ 8200 := pow_times (a := 4096) (b := 4096) (c := 8200) (by decide)
theorem pow_two_le : (10 : Nat) ^ 4096 + 10 ^ 4096 ≤ 10 ^ 8200 := pow_plus (a := 4096) (c := 8200) (by decide)
theorem bounded_of_le {op : Int → Int → Int} (h : ∀ x y, (op x y).natAbs ≤ x.natAbs + y.natAbs) : Bounded op := by
  intro x y hx hy
  unfold Fit at hx hy
  have h1 := h x y
  have h2 := pow_two_le
  generalize (10 : Nat) ^ 4096 = A at *
  generalize (10 : Nat) ^ 8200 = B at *
  omega
theorem bounded_add : Bounded (fun x y => x + y) := bounded_of_le fun x y => by omega
theorem bounded_sub : Bounded (fun x y => x - y) := bounded_of_le fun x y => by omega
theorem bounded_mul : Bounded (fun x y => x * y) := by
  intro x y hx hy
  show (x * y).natAbs < _
  rw [Int.natAbs_mul]
  exact Nat.lt_of_lt_of_le (Nat.mul_lt_mul'' hx hy) pow_big
theorem bounded_gcd : Bounded (fun x y => (Nat.gcd x.natAbs y.natAbs : Int)) := bounded_of_le fun x y => by
  show Nat.gcd x.natAbs y.natAbs ≤ _
  by_cases h : x.natAbs = 0
  · rw [h, Nat.gcd_zero_left]; omega
  · have := Nat.gcd_le_left (m := x.natAbs) y.natAbs (by omega); omega
theorem natAbs_fdiv_le (x : Int) {y : Int} (hy : y ≠ 0) : (x.fdiv y).natAbs ≤ x.natAbs + y.natAbs := by
  have h := fd_spec x hy
  obtain ⟨h1, h2, h3⟩ := h
  generalize x.fdiv y = q at *
  generalize x.fmod y = r at *
  by_cases hq : q = 0
  · subst hq; simp
  · have hyq : (y * q).natAbs = y.natAbs * q.natAbs := Int.natAbs_mul _ _
    have hy1 : 1 ≤ y.natAbs := by omega
    have hq1 : 1 ≤ q.natAbs := by omega
    have hm : q.natAbs + y.natAbs ≤ y.natAbs * q.natAbs + 1 := by
      obtain ⟨a, ha⟩ : ∃ a, y.natAbs = a + 1 := ⟨y.natAbs - 1, by omega⟩
      obtain ⟨b, hb⟩ : ∃ b, q.natAbs = b + 1 := ⟨q.natAbs - 1, by omega⟩
      rw [ha, hb, Nat.add_mul, Nat.mul_add]
      omega
    have hr : r.natAbs < y.natAbs := by
      rcases Int.lt_trichotomy y 0 with h | h | h
      · have := h3 h; omega
      · exact absurd h hy
      · have := h2 h; omega
    have : (y * q).natAbs ≤ x.natAbs + r.natAbs := by omega
    omega
theorem natAbs_fmod_le (x : Int) {y : Int} (hy : y ≠ 0) : (x.fmod y).natAbs ≤ x.natAbs + y.natAbs := by
  obtain ⟨_, h2, h3⟩ := fd_spec x hy
  generalize x.fmod y = r at *
  rcases Int.lt_trichotomy y 0 with h | h | h
  · have := h3 h; omega
  · exact absurd h hy
  · have := h2 h; omega
end Go.Proofs.YtpinmgoeapakdaaGreatDoor

namespace Go.Proofs.YtpinmgoeapakdaaGreatDoor
open Go.Lib

def rT (r : Rat) : BT := if r.den = 1 then itoa r.num else itoa r.num ++ 47 :: decDigits r.den

def topT (s : BT) : BT := s.takeWhile (fun c => c != 47)

def slashed (s : BT) : Bool := s.any (fun c => c == 47)

def botT (s : BT) : BT := if slashed s then (s.dropWhile (fun c => c != 47)).drop 1 else [49]

theorem takeWhile_all {p : UInt8 → Bool} : ∀ {l : BT}, (∀ c ∈ l, p c = true) → l.takeWhile p = l
  | [], _ => rfl
  | c :: t, h => by rw [List.takeWhile_cons_of_pos (h c (.head _)), takeWhile_all fun d hd => h d (.tail _ hd)]
theorem takeWhile_mem {p : UInt8 → Bool} : ∀ {l : BT} {c : UInt8}, c ∈ l.takeWhile p → p c = true
  | [], c, h => by simp at h
  | d :: t, c, h => by
    by_cases hd : p d = true
    · rw [List.takeWhile_cons_of_pos hd] at h
      rcases List.mem_cons.1 h with rfl | h
      · exact hd
      · exact takeWhile_mem h
    · rw [List.takeWhile_cons_of_neg hd] at h
      simp at h
theorem dgs_no47 {l : BT} (h : Dgs l) : ∀ c ∈ l, c ≠ 47 := by
  intro c hc e
  have := isDg_iff.1 (h c hc)
  rw [e] at this
  revert this
  decide
theorem itoa_no47 (z : Int) : ∀ c ∈ itoa z, c ≠ 47 := by
  intro c hc
  by_cases h : z < 0
  · rw [itoa_neg' h] at hc
    rcases List.mem_cons.1 hc with rfl | hc
    · decide
    · exact dgs_no47 (dec_dgs _) c hc
  · rw [itoa_pos' (by omega)] at hc
    exact dgs_no47 (dec_dgs _) c hc
theorem top_plain {p : BT} (h : ∀ c ∈ p, c ≠ 47) : topT p = p ∧ slashed p = false ∧ botT p = [49] := by
  have h1 : slashed p = false := by
    unfold slashed
    rw [List.any_eq_false]
    intro c hc; simp [h c hc]
  refine ⟨?_, h1, by unfold botT; rw [h1]; rfl⟩
  unfold topT
  exact takeWhile_all fun c hc => by simp [h c hc]
theorem top_slash {p q : BT} (h : ∀ c ∈ p, c ≠ 47) : topT (p ++ 47 :: q) = p ∧ slashed (p ++ 47 :: q) = true ∧ botT (p ++ 47 :: q) = q := by
  have h1 : slashed (p ++ 47 :: q) = true := by unfold slashed; simp
  refine ⟨?_, h1, ?_⟩
  · unfold topT
    rw [List.takeWhile_append_of_pos (by intro c hc; simp [h c hc])]
    simp
  · unfold botT
    rw [h1, if_pos rfl, List.dropWhile_append_of_pos (by intro c hc; simp [h c hc])]
    simp

theorem split_slash {s : BT} (h : slashed s = true) : s = topT s ++ 47 :: botT s := by
  have e : s = topT s ++ s.dropWhile (fun c => c != 47) := (List.takeWhile_append_dropWhile (p := fun c : UInt8 => c != 47) (l := s)).symm
  unfold botT
  rw [h, if_pos rfl]
  cases hd : s.dropWhile (fun c => c != 47) with
  | nil =>
    exfalso
    rw [hd, List.append_nil] at e
    unfold slashed at h
    obtain ⟨c, hc, hc2⟩ := List.any_eq_true.1 h
    rw [e] at hc
    have := takeWhile_mem hc
    simp at this hc2
    exact this hc2
  | cons c t =>
    have h2 : c = 47 := by
      have := List.head_dropWhile_not (p := fun c : UInt8 => c != 47) (w := by rw [hd]; simp) (l := s)
      simp only [hd, List.head_cons] at this
      simpa using this
    rw [hd, h2] at e
    simpa using e
theorem split_none {s : BT} (h : slashed s = false) : topT s = s := by
  unfold topT
  unfold slashed at h
  rw [List.any_eq_false] at h
  refine takeWhile_all fun c hc => ?_
  have := h c hc
  simpa using this

theorem rT_parts (r : Rat) : topT (rT r) = itoa r.num ∧ botT (rT r) = decDigits r.den ∧ slashed (rT r) = decide (r.den ≠ 1) := by
  unfold rT
  by_cases h : r.den = 1
  · rw [if_pos h, h]
    obtain ⟨h1, h2, h3⟩ := top_plain (itoa_no47 r.num)
    exact ⟨h1, by rw [h3, dec_small (by omega)]; rfl, by rw [h2]; rfl⟩
  · rw [if_neg h]
    obtain ⟨h1, h2, h3⟩ := top_slash (q := decDigits r.den) (itoa_no47 r.num)
    exact ⟨h1, h3, by rw [h2, decide_eq_true h]⟩
theorem nat_itoa (n : Nat) : itoa (n : Int) = decDigits n := by rw [itoa_pos' (by omega), Int.natAbs_natCast]
theorem itoa_one : itoa 1 = [49] := by rw [itoa_pos' (by omega)]; exact dec_small (by omega)
theorem rat_ext {r s : Rat} (h1 : r.num = s.num) (h2 : r.den = s.den) : r = s := Rat.ext h1 h2
theorem rT_inj {r s : Rat} (h : rT r = rT s) : r = s := by
  obtain ⟨a1, a2, _⟩ := rT_parts r
  obtain ⟨b1, b2, _⟩ := rT_parts s
  rw [h] at a1 a2
  exact rat_ext (itoa_inj (a1.symm.trans b1)) (dec_inj (a2.symm.trans b2))

def FitR (r : Rat) : Prop := Fit r.num ∧ Fit (r.den : Int)

def chkR (s : BT) : Int :=
  if chkI (topT s) = 3 ∨ chkI (botT s) = 3 then 3
  else if slashed s = true ∧ (valI (botT s) ≤ 0 ∨ botT s = [49]) then 3
  else if 4096 < (bodyT (topT s)).length ∨ 4096 < (bodyT (botT s)).length then 23
  else if slashed s = true ∧ Nat.gcd (valI (topT s)).natAbs (valI (botT s)).natAbs ≠ 1 then 3 else 0

def valR (s : BT) : Rat := mkRat (valI (topT s)) (valI (botT s)).natAbs

theorem valR_rT (r : Rat) : valR (rT r) = r := by
  obtain ⟨h1, h2, _⟩ := rT_parts r
  unfold valR
  rw [h1, h2, ← nat_itoa, valI_itoa, valI_itoa, Int.natAbs_natCast]
  exact Rat.mkRat_self r
theorem chkR_fit {r : Rat} (h : FitR r) : chkR (rT r) = 0 := by
  obtain ⟨h1, h2, h3⟩ := rT_parts r
  obtain ⟨f1, f2⟩ := h
  unfold chkR
  rw [h1, h2, h3, ← nat_itoa, chkI_fit f1, chkI_fit f2, valI_itoa, valI_itoa, bodyT_itoa, bodyT_itoa]
  have hd := r.den_pos
  rw [if_neg (by decide), if_neg, if_neg, if_neg]
  · rintro ⟨_, hg⟩
    exact hg (by rw [Int.natAbs_natCast]; exact r.reduced)
  · rintro (h | h)
    · exact fit_iff.1 f1 h
    · exact fit_iff.1 f2 h
  · rintro ⟨h4, h5 | h5⟩
    · omega
    · rw [← itoa_one] at h5
      have := itoa_inj h5
      simp at h4
      omega
theorem chkR_cases (s : BT) : chkR s = 0 ∨ chkR s = 3 ∨ chkR s = 23 := by
  unfold chkR
  split
  · exact .inr (.inl rfl)
  split
  · exact .inr (.inl rfl)
  split
  · exact .inr (.inr rfl)
  split
  · exact .inr (.inl rfl)
  · exact .inl rfl
theorem chkI_one : chkI [49] = 0 := by decide
theorem chkR_ok {s : BT} (h : chkR s = 0) : s = rT (valR s) ∧ FitR (valR s) := by
  unfold chkR at h
  split at h
  · cases h
  rename_i c1
  split at h
  · cases h
  rename_i c2
  split at h
  · cases h
  rename_i c3
  split at h
  · cases h
  rename_i c4
  obtain ⟨x, hx⟩ := chkI_form (s := topT s) (fun e => c1 (.inl e))
  obtain ⟨y, hy⟩ := chkI_form (s := botT s) (fun e => c1 (.inr e))
  rw [hx, hy, valI_itoa, valI_itoa] at c4
  rw [hx, hy, bodyT_itoa, bodyT_itoa] at c3
  have fx : Fit x := fit_iff.2 (fun e => c3 (.inl e))
  have fy : Fit y := fit_iff.2 (fun e => c3 (.inr e))
  by_cases hs : slashed s = true
  · rw [hs] at c2 c4
    rw [hy, valI_itoa] at c2
    have y0 : 0 < y := by
      rcases Int.lt_or_le 0 y with h | h
      · exact h
      · exact absurd ⟨rfl, .inl h⟩ c2
    have y1 : y ≠ 1 := fun e => c2 ⟨rfl, .inr (by rw [e]; exact itoa_one)⟩
    have hg : Nat.gcd x.natAbs y.natAbs = 1 := by
      rcases Nat.decEq (Nat.gcd x.natAbs y.natAbs) 1 with h | h
      · exact absurd ⟨rfl, h⟩ c4
      · exact h
    have hv : valR s = ⟨x, y.natAbs, by omega, hg⟩ := by
      unfold valR
      rw [hx, hy, valI_itoa, valI_itoa]
      exact (Rat.mk_eq_mkRat x y.natAbs (by omega) hg).symm
    refine ⟨?_, ?_⟩
    · rw [hv]
      unfold rT
      have hd : y.natAbs ≠ 1 := by omega
      rw [if_neg hd]
      conv => lhs; rw [split_slash hs, hx, hy, itoa_pos' (z := y) (by omega)]
    · rw [hv]
      exact ⟨fx, by show Fit ((y.natAbs : Nat) : Int); rwa [show ((y.natAbs : Nat) : Int) = y by omega]⟩
  · have hs' : slashed s = false := by simpa using hs
    have hb : botT s = [49] := by unfold botT; rw [hs']; rfl
    have y1 : y = 1 := itoa_inj (hy.symm.trans (hb.trans itoa_one.symm))
    have hv : valR s = (x : Rat) := by
      unfold valR
      rw [hx, hb, valI_itoa, show valI [49] = 1 by decide]
      exact Rat.mkRat_one x
    refine ⟨?_, ?_⟩
    · rw [hv]
      unfold rT
      rw [Rat.den_intCast, if_pos rfl, Rat.num_intCast, ← hx, split_none hs']
    · rw [hv]
      refine ⟨by rw [Rat.num_intCast]; exact fx, ?_⟩
      rw [Rat.den_intCast]
      rw [y1] at fy
      exact fy

def chk2R (s t : BT) : Int := if chkR s ≠ 0 then chkR s else chkR t
theorem chk2R_zero {s t : BT} : chk2R s t = 0 ↔ chkR s = 0 ∧ chkR t = 0 := by
  unfold chk2R
  by_cases h : chkR s = 0
  · rw [if_neg (by simpa using h)]; simp [h]
  · rw [if_pos h]; simp [h]

theorem rat_div (r : Rat) : Rat.divInt r.num (r.den : Int) = r := by
  rw [Rat.divInt_ofNat]; exact Rat.mkRat_self r
theorem add_parts (a b : Rat) : a + b = Rat.divInt (a.num * b.den + b.num * a.den) ((a.den : Int) * b.den) := by
  conv => lhs; rw [← rat_div a, ← rat_div b]
  exact Rat.divInt_add_divInt _ _ (by have := a.den_pos; omega) (by have := b.den_pos; omega)
theorem sub_parts (a b : Rat) : a - b = Rat.divInt (a.num * b.den - b.num * a.den) ((a.den : Int) * b.den) := by
  conv => lhs; rw [← rat_div a, ← rat_div b]
  exact Rat.divInt_sub_divInt _ _ (by have := a.den_pos; omega) (by have := b.den_pos; omega)
theorem mul_parts (a b : Rat) : a * b = Rat.divInt (a.num * b.num) ((a.den : Int) * b.den) := by
  conv => lhs; rw [← rat_div a, ← rat_div b]
  exact Rat.divInt_mul_divInt _ _
theorem div_parts (a b : Rat) : a / b = Rat.divInt (a.num * b.den) ((a.den : Int) * b.num) := by
  conv => lhs; rw [Rat.div_def, ← rat_div a, ← rat_div b]
  rw [Rat.inv_divInt]
  exact Rat.divInt_mul_divInt _ _

def ordR (a b : Rat) : Int := (a.num * b.den - b.num * a.den).sign
theorem ordR_neg {a b : Rat} : ordR a b < 0 ↔ a < b := by
  unfold ordR
  rw [Int.sign_neg_iff, Rat.lt_iff]
  omega
theorem ordR_pos {a b : Rat} : 0 < ordR a b ↔ b < a := by
  unfold ordR
  rw [Int.sign_pos_iff, Rat.lt_iff]
  omega
theorem ordR_zero {a b : Rat} : ordR a b = 0 ↔ a = b := by
  constructor
  · intro h
    have h1 : ¬ a < b := fun e => by have := ordR_neg.2 e; omega
    have h2 : ¬ b < a := fun e => by have := ordR_pos.2 e; omega
    exact Rat.le_antisymm (Rat.not_lt.1 h2) (Rat.not_lt.1 h1)
  · rintro rfl
    unfold ordR; simp
theorem ordR_one {a b : Rat} : ordR a b = -1 ∨ ordR a b = 0 ∨ ordR a b = 1 := by
  unfold ordR
  rcases Int.lt_trichotomy (a.num * b.den - b.num * a.den) 0 with h | h | h
  · exact .inl (Int.sign_eq_neg_one_of_neg h)
  · exact .inr (.inl (by rw [h]; rfl))
  · exact .inr (.inr (Int.sign_eq_one_of_pos h))
end Go.Proofs.YtpinmgoeapakdaaGreatDoor

namespace Go.Proofs.YtpinmgoeapakdaaGreatDoor
open Go.Lib

theorem cutb_one (c : UInt8) : ∀ s : BT, (s.any (fun d => d == c) = true → indexByte s c = ((s.takeWhile (fun d => d != c)).length : Int)) ∧ (s.any (fun d => d == c) = false → indexByte s c = -1)
  | [] => ⟨fun h => by simp at h, fun _ => rfl⟩
  | b :: l => by
    obtain ⟨h1, h2⟩ := cutb_one c l
    unfold indexByte
    by_cases h : b = c
    · subst h
      refine ⟨fun _ => by simp, fun h => by simp at h⟩
    · have hb : (b == c) = false := by simpa using h
      rw [hb, if_neg (by simp)]
      have ht : (b :: l).takeWhile (fun d => d != c) = b :: l.takeWhile (fun d => d != c) := List.takeWhile_cons_of_pos (by simpa using h)
      rw [List.any_cons, hb, Bool.false_or, ht]
      refine ⟨fun h3 => ?_, fun h3 => ?_⟩
      · rw [h1 h3, if_neg (by rw [beq_iff_eq]; omega)]
        simp
      · rw [h2 h3]; rfl
theorem take_tw (p : UInt8 → Bool) (s : BT) : s.take (s.takeWhile p).length = s.takeWhile p := by
  have h : s = s.takeWhile p ++ s.dropWhile p := (List.takeWhile_append_dropWhile (p := p) (l := s)).symm
  generalize s.takeWhile p = a at *
  generalize s.dropWhile p = b at *
  subst h
  simp
theorem drop_tw (p : UInt8 → Bool) (s : BT) : s.drop (s.takeWhile p).length = s.dropWhile p := by
  have h : s = s.takeWhile p ++ s.dropWhile p := (List.takeWhile_append_dropWhile (p := p) (l := s)).symm
  generalize s.takeWhile p = a at *
  generalize s.dropWhile p = b at *
  subst h
  simp

def headB (c : UInt8) (s : BT) : BT := s.takeWhile (fun d => d != c)
def hasB (c : UInt8) (s : BT) : Bool := s.any (fun d => d == c)
def tailB (c : UInt8) (s : BT) : BT := if hasB c s then (s.dropWhile (fun d => d != c)).drop 1 else []
theorem head_none {c : UInt8} {s : BT} (h : hasB c s = false) : headB c s = s ∧ tailB c s = [] := by
  refine ⟨?_, by unfold tailB; rw [h]; rfl⟩
  unfold hasB at h
  rw [List.any_eq_false] at h
  exact takeWhile_all fun x hx => by have := h x hx; simpa using this
theorem head_some {c : UInt8} {s : BT} (h : hasB c s = true) : headB c s = s.take (headB c s).length ∧ tailB c s = s.drop ((headB c s).length + 1) ∧ (headB c s).length + 1 ≤ s.length := by
  have e := take_tw (fun d => d != c) s
  have e2 := drop_tw (fun d => d != c) s
  refine ⟨e.symm, ?_, ?_⟩
  · unfold tailB
    rw [h, if_pos rfl, ← e2, List.drop_drop]
    rfl
  · have h3 : s.dropWhile (fun d => d != c) ≠ [] := by
      intro h4
      have h5 := List.takeWhile_append_dropWhile (p := fun d : UInt8 => d != c) (l := s)
      rw [h4, List.append_nil] at h5
      unfold hasB at h
      obtain ⟨d, hd, hd2⟩ := List.any_eq_true.1 h
      rw [← h5] at hd
      have := takeWhile_mem hd
      simp at this hd2
      exact this hd2
    have h6 := congrArg List.length (List.takeWhile_append_dropWhile (p := fun d : UInt8 => d != c) (l := s))
    have h7 := List.length_pos_iff.2 h3
    rw [List.length_append] at h6
    unfold headB
    omega
theorem byte_idx (c : UInt8) (s : BT) : (hasB c s = true → indexByte s c = ((headB c s).length : Int)) ∧ (hasB c s = false → indexByte s c = -1) := cutb_one c s
theorem head_slash (s : BT) : headB 47 s = topT s ∧ hasB 47 s = slashed s ∧ (slashed s = true → tailB 47 s = botT s) := by
  refine ⟨rfl, rfl, fun h => ?_⟩
  unfold tailB botT
  rw [show hasB 47 s = slashed s from rfl, h, if_pos rfl, if_pos rfl]
end Go.Proofs.YtpinmgoeapakdaaGreatDoor

namespace Go.Proofs.YtpinmgoeapakdaaGreatDoor
open Go.Lib

def ofN (n : Int) : Int := (65535 * n + 50000) / 100000
theorem ofN_iff {n v : Int} : ofN n = v ↔ 100000 * v ≤ 65535 * n + 50000 ∧ 65535 * n + 50000 < 100000 * (v + 1) := by unfold ofN; omega
theorem ofN_mono {m n : Int} (h : m ≤ n) : ofN m ≤ ofN n := by unfold ofN; omega

def kOf (v u : Int) : Int := (100000 * v - 50000 + 65535 * u - 1) / (65535 * u)

def unitD : Nat → Int
  | 0 => 1000
  | 1 => 100
  | 2 => 10
  | _ => 1

def partD : Nat → Int
  | 0 => 1
  | 1 => 10
  | 2 => 100
  | _ => 1000
theorem unit_part (d : Nat) : unitD d * partD d = 1000 := by unfold unitD partD; split <;> rfl
theorem unit_cases (d : Nat) : (unitD d = 1000 ∧ partD d = 1) ∨ (unitD d = 100 ∧ partD d = 10) ∨ (unitD d = 10 ∧ partD d = 100) ∨ (unitD d = 1 ∧ partD d = 1000) := by
  unfold unitD partD; split <;> simp
theorem kOf_spec (d : Nat) {v : Int} (h0 : 0 ≤ v) (h1 : v ≤ 65535) :
    0 ≤ kOf v (unitD d) ∧ kOf v (unitD d) * unitD d ≤ 100000 ∧ v ≤ ofN (kOf v (unitD d) * unitD d) ∧ ∀ j, 0 ≤ j → j < kOf v (unitD d) → ofN (j * unitD d) < v := by
  unfold kOf ofN
  rcases unit_cases d with ⟨e, _⟩ | ⟨e, _⟩ | ⟨e, _⟩ | ⟨e, _⟩ <;> rw [e]
  all_goals refine ⟨by omega, by omega, by omega, fun j hj hk => by omega⟩

def hasD (v : Int) (d : Nat) : Bool := decide (ofN (kOf v (unitD d) * unitD d) = v)
theorem has_last {v : Int} (_ : 0 ≤ v) (_ : v ≤ 65534) : hasD v 3 = true := by
  have e : unitD 3 = 1 := rfl
  unfold hasD kOf ofN
  rw [decide_eq_true_eq, e]
  omega
theorem has_no {v : Int} {d : Nat} (h0 : 0 ≤ v) (h1 : v ≤ 65535) (h : hasD v d = false) (j : Int) : ofN (j * unitD d) ≠ v := by
  intro e
  unfold hasD at h
  rw [decide_eq_false_iff_not] at h
  obtain ⟨k0, _, k2, k3⟩ := kOf_spec d h0 h1
  rcases Int.lt_or_le j (kOf v (unitD d)) with hj | hj
  · rcases Int.lt_or_le j 0 with hn | hn
    · have : ofN (j * unitD d) ≤ ofN 0 := ofN_mono (Int.mul_nonpos_of_nonpos_of_nonneg (by omega) (by rcases unit_cases d with ⟨e, _⟩ | ⟨e, _⟩ | ⟨e, _⟩ | ⟨e, _⟩ <;> rw [e] <;> omega))
      have e0 : ofN 0 = 0 := by decide
      have : v = 0 := by omega
      subst this
      apply h
      have k0' : kOf 0 (unitD d) = 0 := by unfold kOf; rcases unit_cases d with ⟨e, _⟩ | ⟨e, _⟩ | ⟨e, _⟩ | ⟨e, _⟩ <;> rw [e] <;> decide
      rw [k0', Int.zero_mul]; exact e0
    · have := k3 j hn hj
      omega
  · have : ofN (kOf v (unitD d) * unitD d) ≤ ofN (j * unitD d) := ofN_mono (Int.mul_le_mul_of_nonneg_right hj (by rcases unit_cases d with ⟨e, _⟩ | ⟨e, _⟩ | ⟨e, _⟩ | ⟨e, _⟩ <;> rw [e] <;> omega))
    omega

def padD (least : Nat) (r : Int) : BT := List.replicate (least - (itoa r).length) 48 ++ itoa r

def textD (k : Int) (d : Nat) : BT := itoa (k / partD d) ++ (if d = 0 then [] else 46 :: padD d (k % partD d))
def fullT : BT := [102, 117, 108, 108]

def decsOf (v : Int) : Nat := if hasD v 0 then 0 else if hasD v 1 then 1 else if hasD v 2 then 2 else 3

def namedT (v : Int) : BT := if v = 65535 then fullT else textD (kOf v (unitD (decsOf v))) (decsOf v)
theorem decs_has {v : Int} (h0 : 0 ≤ v) (h1 : v ≤ 65534) : hasD v (decsOf v) = true := by
  unfold decsOf
  split
  · assumption
  split
  · assumption
  split
  · assumption
  exact has_last h0 h1
theorem decs_less {v : Int} {d : Nat} (h : d < decsOf v) : hasD v d = false := by
  unfold decsOf at h
  split at h
  · omega
  split at h
  · obtain rfl : d = 0 := by omega
    simp_all
  split at h
  · obtain rfl | rfl : d = 0 ∨ d = 1 := by omega
    all_goals simp_all
  · obtain rfl | rfl | rfl : d = 0 ∨ d = 1 ∨ d = 2 := by omega
    all_goals simp_all
theorem decs_le (v : Int) : decsOf v ≤ 3 := by
  unfold decsOf
  split
  · omega
  split
  · omega
  split <;> omega

def dig3 (s : BT) : Bool := decide (1 ≤ s.length ∧ s.length ≤ 3) && s.all isDg
theorem dig3_iff {s : BT} : dig3 s = true ↔ (1 ≤ s.length ∧ s.length ≤ 3) ∧ Dgs s := by
  unfold dig3 Dgs
  rw [Bool.and_eq_true, decide_eq_true_eq, List.all_eq_true]

def pad0 (s : BT) : BT := (s ++ [48, 48, 48]).take 3

def wholeT (s : BT) : BT := s.takeWhile (fun c => c != 46)
def restT (s : BT) : BT := if s.any (fun c => c == 46) then (s.dropWhile (fun c => c != 46)).drop 1 else [48, 48, 48]

def okP (s : BT) : Bool := dig3 (wholeT s) && dig3 (restT s) && !(decide (1 < (wholeT s).length) && decide ((wholeT s).head? = some 48))

def valP (s : BT) : Int := 1000 * (dval (wholeT s) : Int) + (dval (pad0 (restT s)) : Int)

def pctT (s : BT) : Int × Int :=
  if s = fullT then (65535, 0) else if okP s = false then (0, 3) else if 100000 < valP s then (0, 2) else (ofN (valP s), 0)
theorem valP_bd {s : BT} (h : okP s = true) : 0 ≤ valP s ∧ valP s ≤ 999999 := by
  unfold okP at h
  simp only [Bool.and_eq_true] at h
  obtain ⟨⟨h1, h2⟩, _⟩ := h
  obtain ⟨⟨a1, a2⟩, a3⟩ := dig3_iff.1 h1
  obtain ⟨⟨b1, b2⟩, b3⟩ := dig3_iff.1 h2
  have c1 := dval_lt a3
  have c2 : dval (pad0 (restT s)) < 10 ^ (pad0 (restT s)).length := dval_lt (Dgs.take (b3.append (by intro c hc; simp at hc; subst hc; decide)) 3)
  have c3 : (pad0 (restT s)).length ≤ 3 := by unfold pad0; rw [List.length_take]; omega
  have c4 : (10 : Nat) ^ (wholeT s).length ≤ 10 ^ 3 := Nat.pow_le_pow_right (by omega) a2
  have c5 : (10 : Nat) ^ (pad0 (restT s)).length ≤ 10 ^ 3 := Nat.pow_le_pow_right (by omega) c3
  unfold valP
  omega

theorem dg_ne {c : UInt8} {k : UInt8} (h : isDg c = true) (hk : ¬ isDg k = true) : c ≠ k := fun e => hk (e ▸ h)
theorem itoa_dgs {z : Int} (h : 0 ≤ z) : Dgs (itoa z) := by rw [itoa_pos' h]; exact dec_dgs _
theorem itoa_dval {z : Int} (h : 0 ≤ z) : (dval (itoa z) : Int) = z := by rw [itoa_pos' h, dec_val]; omega
theorem itoa_lt {z : Int} {k : Nat} (h : 0 ≤ z) (hk : 0 < k) (hz : z < 10 ^ k) : 1 ≤ (itoa z).length ∧ (itoa z).length ≤ k := by
  rw [itoa_pos' h]
  refine ⟨List.length_pos_iff.2 (dec_ne _), (dec_len_iff hk).2 ?_⟩
  have h1 : ((z.natAbs : Nat) : Int) < ((10 ^ k : Nat) : Int) := by
    rw [Int.natCast_pow]
    have : ((z.natAbs : Nat) : Int) = z := by omega
    rw [this]
    exact hz
  exact Int.ofNat_lt.1 h1
theorem itoa_head {z : Int} (h : 0 ≤ z) : ¬ (1 < (itoa z).length ∧ (itoa z).head? = some 48) := by
  rintro ⟨h1, h2⟩
  rw [itoa_pos' h] at h1 h2
  by_cases h0 : z.natAbs = 0
  · rw [h0, dec_zero] at h1; simp at h1
  · obtain ⟨c, t, e, hc⟩ := dec_head z.natAbs (by omega)
    rw [e] at h2
    simp at h2
    exact hc h2
theorem zeros_dgs (k : Nat) : Dgs (List.replicate k 48) := by intro c hc; rw [List.mem_replicate] at hc; rw [hc.2]; decide
theorem padD_dgs {d : Nat} {r : Int} (h : 0 ≤ r) : Dgs (padD d r) := (zeros_dgs _).append (itoa_dgs h)
theorem padD_dval {d : Nat} {r : Int} (h : 0 ≤ r) : (dval (padD d r) : Int) = r := by
  unfold padD
  rw [dval_append, dval_zeros, Nat.zero_mul, Nat.zero_add]
  exact itoa_dval h
theorem padD_len {d : Nat} {r : Int} (h : 0 ≤ r) (hd : 0 < d) (hr : r < 10 ^ d) : (padD d r).length = d := by
  unfold padD
  have := itoa_lt h hd hr
  rw [List.length_append, List.length_replicate]
  omega
theorem dval_pad0 {s : BT} (h : s.length ≤ 3) : dval (pad0 s) = dval s * 10 ^ (3 - s.length) := by
  unfold pad0
  have e : (s ++ [48, 48, 48]).take 3 = s ++ List.replicate (3 - s.length) 48 := by
    rw [List.take_append, List.take_of_length_le h]
    congr 1
    obtain h | h | h | h : s.length = 0 ∨ s.length = 1 ∨ s.length = 2 ∨ s.length = 3 := by omega
    all_goals rw [h]; rfl
  rw [e, dval_append, dval_zeros, List.length_replicate, Nat.add_zero]

theorem read_whole {q : BT} (hq : dig3 q = true) : wholeT q = q ∧ restT q = [48, 48, 48] := by
  have hd := (dig3_iff.1 hq).2
  have h1 : ∀ c ∈ q, (c != 46) = true := fun c hc => by simpa using dg_ne (hd c hc) (by decide)
  refine ⟨takeWhile_all h1, ?_⟩
  unfold restT
  rw [if_neg]
  rw [Bool.not_eq_true, List.any_eq_false]
  intro c hc
  simpa using dg_ne (hd c hc) (by decide)
theorem read_point {q r : BT} (hq : dig3 q = true) : wholeT (q ++ 46 :: r) = q ∧ restT (q ++ 46 :: r) = r := by
  have hd := (dig3_iff.1 hq).2
  have h1 : ∀ c ∈ q, (c != 46) = true := fun c hc => by simpa using dg_ne (hd c hc) (by decide)
  refine ⟨?_, ?_⟩
  · unfold wholeT
    rw [List.takeWhile_append_of_pos h1]
    simp
  · unfold restT
    rw [if_pos (by simp), List.dropWhile_append_of_pos h1]
    simp
theorem not_full {s : BT} (h : okP s = true) : s ≠ fullT := by
  rintro rfl
  revert h
  decide

theorem pct_text {d : Nat} {q r : Int} (hd : d ≤ 3) (h0 : 0 ≤ q) (h1 : q < 1000) (r0 : 0 ≤ r) (r1 : r < partD d) (hn : 1000 * q + r * unitD d ≤ 100000) :
    pctT (itoa q ++ (if d = 0 then [] else 46 :: padD d r)) = (ofN (1000 * q + r * unitD d), 0) := by
  have hq : dig3 (itoa q) = true := dig3_iff.2 ⟨itoa_lt h0 (k := 3) (by omega) (by simpa using h1), itoa_dgs h0⟩
  have hh : ¬ (decide (1 < (itoa q).length) && decide ((itoa q).head? = some 48)) = true := by
    rw [Bool.and_eq_true, decide_eq_true_eq, decide_eq_true_eq]
    exact itoa_head h0
  rw [Bool.not_eq_true] at hh
  by_cases h : d = 0
  · subst h
    rw [if_pos rfl, List.append_nil]
    obtain ⟨e1, e2⟩ := read_whole hq
    have hok : okP (itoa q) = true := by unfold okP; rw [e1, e2, hq, hh]; decide
    have r00 : r = 0 := by have : partD 0 = 1 := rfl; omega
    have hv : valP (itoa q) = 1000 * q + r * unitD 0 := by
      unfold valP
      rw [e1, e2, itoa_dval h0, r00]
      have : dval (pad0 [48, 48, 48]) = 0 := by decide
      rw [this]; omega
    unfold pctT
    rw [if_neg (not_full hok), hok, if_neg (by decide), hv, if_neg (by omega)]
  · rw [if_neg h]
    obtain ⟨e1, e2⟩ := read_point (r := padD d r) hq
    have hp : partD d = 10 ^ d := by
      obtain rfl | rfl | rfl : d = 1 ∨ d = 2 ∨ d = 3 := by omega
      all_goals rfl
    have hl := padD_len (d := d) r0 (by omega) (by rw [← hp]; exact r1)
    have hr : dig3 (padD d r) = true := dig3_iff.2 ⟨by omega, padD_dgs r0⟩
    have hok : okP (itoa q ++ 46 :: padD d r) = true := by unfold okP; rw [e1, e2, hq, hr, hh]; decide
    have hv : valP (itoa q ++ 46 :: padD d r) = 1000 * q + r * unitD d := by
      unfold valP
      rw [e1, e2, itoa_dval h0, dval_pad0 (by omega), Int.natCast_mul, padD_dval r0, hl]
      congr 1
      congr 1
      obtain rfl | rfl | rfl : d = 1 ∨ d = 2 ∨ d = 3 := by omega
      all_goals rfl
    unfold pctT
    rw [if_neg (not_full hok), hok, if_neg (by decide), hv, if_neg (by omega)]

theorem k_parts (k : Int) (d : Nat) : 1000 * (k / partD d) + k % partD d * unitD d = k * unitD d := by
  rcases unit_cases d with ⟨e, f⟩ | ⟨e, f⟩ | ⟨e, f⟩ | ⟨e, f⟩ <;> rw [e, f] <;> omega
theorem part_bd {k : Int} (d : Nat) (h0 : 0 ≤ k) (h1 : k * unitD d ≤ 100000) : 0 ≤ k / partD d ∧ k / partD d ≤ 100 ∧ 0 ≤ k % partD d ∧ k % partD d < partD d := by
  rcases unit_cases d with ⟨e, f⟩ | ⟨e, f⟩ | ⟨e, f⟩ | ⟨e, f⟩ <;> rw [e] at h1 <;> rw [f] <;> omega
theorem pct_textD {k : Int} {d : Nat} (hd : d ≤ 3) (h0 : 0 ≤ k) (h1 : k * unitD d ≤ 100000) : pctT (textD k d) = (ofN (k * unitD d), 0) := by
  obtain ⟨p0, p1, p2, p3⟩ := part_bd d h0 h1
  unfold textD
  rw [pct_text hd p0 (by omega) p2 p3 (by rw [k_parts]; exact h1), k_parts]
theorem pct_named {v : Int} (h0 : 0 ≤ v) (h1 : v ≤ 65535) : pctT (namedT v) = (v, 0) := by
  unfold namedT
  by_cases h : v = 65535
  · rw [if_pos h, h]; decide
  · rw [if_neg h]
    obtain ⟨k0, k1, _, _⟩ := kOf_spec (decsOf v) h0 h1
    rw [pct_textD (decs_le v) k0 k1]
    have := decs_has h0 (by omega)
    unfold hasD at this
    rw [decide_eq_true_eq] at this
    rw [this]
theorem drop_digit {d : Nat} {r : Int} (hd : 0 < d) (h0 : 0 ≤ r) (h1 : r < 10 ^ (d + 1)) : (padD (d + 1) r).dropLast = padD d (r / 10) := by
  have hl := padD_len (d := d + 1) h0 (by omega) h1
  have hl2 := padD_len (d := d) (r := r / 10) (by omega) hd (by have : (10 : Int) ^ (d + 1) = 10 ^ d * 10 := Int.pow_succ 10 d; omega)
  have hv := padD_dval (d := d + 1) h0
  have hD := padD_dgs (d := d + 1) h0
  generalize padD (d + 1) r = l at *
  have hne : l ≠ [] := by intro e; rw [e] at hl; simp at hl
  have e := List.dropLast_concat_getLast hne
  have hc : isDg (l.getLast hne) = true := hD _ (List.getLast_mem hne)
  have hD' : Dgs l.dropLast := by rw [← e] at hD; exact hD.left
  refine dval_inj (k := d) (by rw [List.length_dropLast]; omega) hl2 hD' (padD_dgs (by omega)) ?_
  rw [← e, dval_snoc] at hv
  have h3 := padD_dval (d := d) (r := r / 10) (by omega)
  have h4 := isDg_iff.1 hc
  omega
theorem textD_point {k : Int} {d : Nat} (hd : d ≠ 0) : textD k d = itoa (k / partD d) ++ 46 :: padD d (k % partD d) := by unfold textD; rw [if_neg hd]

theorem pct_short {v : Int} (h0 : 0 ≤ v) (h1 : v ≤ 65534) (hd : 0 < decsOf v) :
    ∃ x, pctT (if decsOf v = 1 then itoa (kOf v (unitD (decsOf v)) / partD (decsOf v)) else (textD (kOf v (unitD (decsOf v))) (decsOf v)).dropLast) = (x, 0) ∧ x ≠ v := by
  obtain ⟨k0, k1, _, _⟩ := kOf_spec (decsOf v) h0 (by omega)
  have hle := decs_le v
  have hn := has_no h0 (by omega) (decs_less (d := decsOf v - 1) (by omega))
  obtain ⟨p0, p1, p2, p3⟩ := part_bd (decsOf v) k0 k1
  generalize kOf v (unitD (decsOf v)) = k at *
  generalize decsOf v = D at *
  by_cases h : D = 1
  · subst h
    rw [if_pos rfl]
    have e : partD 1 = 10 := rfl
    have e2 : unitD (1 - 1) = 1000 := rfl
    have e3 : unitD 1 = 100 := rfl
    rw [e2] at hn
    rw [e] at *
    rw [e3] at k1
    have := pct_text (d := 0) (q := k / 10) (r := 0) (by omega) p0 (by omega) (by omega) (by decide) (by rw [Int.zero_mul]; omega)
    rw [if_pos rfl, List.append_nil] at this
    refine ⟨_, this, ?_⟩
    have := hn (k / 10)
    rw [Int.zero_mul, Int.add_zero, Int.mul_comm]
    exact this
  · rw [if_neg h, textD_point (by omega)]
    obtain ⟨d, rfl, hd3⟩ : ∃ d, D = d + 1 ∧ 0 < d := ⟨D - 1, by omega, by omega⟩
    have hpn : padD (d + 1) (k % partD (d + 1)) ≠ [] := by
      intro e2
      have : (padD (d + 1) (k % partD (d + 1))).length = 0 := by rw [e2]; rfl
      rw [padD_len p2 (by omega)] at this
      · omega
      · obtain rfl | rfl : d = 1 ∨ d = 2 := by omega
        all_goals exact p3
    have hp : partD (d + 1) = 10 ^ (d + 1) := by
      obtain rfl | rfl : d = 1 ∨ d = 2 := by omega
      all_goals rfl
    have hpd : partD d = 10 ^ d := by
      obtain rfl | rfl : d = 1 ∨ d = 2 := by omega
      all_goals rfl
    have hs : (10 : Int) ^ (d + 1) = 10 ^ d * 10 := Int.pow_succ 10 d
    have hu : unitD d = 10 * unitD (d + 1) := by
      obtain rfl | rfl : d = 1 ∨ d = 2 := by omega
      all_goals rfl
    have ed : (itoa (k / partD (d + 1)) ++ 46 :: padD (d + 1) (k % partD (d + 1))).dropLast = itoa (k / partD (d + 1)) ++ (if d = 0 then [] else 46 :: padD d (k % partD (d + 1) / 10)) := by
      rw [if_neg (by omega), List.dropLast_append_of_ne_nil (by simp), List.dropLast_cons_of_ne_nil hpn, drop_digit hd3 p2 (by rw [← hp]; exact p3)]
    rw [ed]
    have hkp := k_parts k (d + 1)
    have hup : 0 < unitD (d + 1) := by rcases unit_cases (d + 1) with ⟨e, _⟩ | ⟨e, _⟩ | ⟨e, _⟩ | ⟨e, _⟩ <;> rw [e] <;> omega
    have hless : k % partD (d + 1) / 10 * unitD d ≤ k % partD (d + 1) * unitD (d + 1) := by
      rw [hu, ← Int.mul_assoc]
      exact Int.mul_le_mul_of_nonneg_right (by omega) (by omega)
    have hr : k % partD (d + 1) / 10 < partD d := by rw [hpd]; rw [hp, hs] at p3 ⊢; omega
    have := pct_text (d := d) (q := k / partD (d + 1)) (r := k % partD (d + 1) / 10) (by omega) p0 (by omega) (by omega) hr (by omega)
    refine ⟨_, this, ?_⟩
    have hj := hn (k / partD (d + 1) * partD d + k % partD (d + 1) / 10)
    rw [show d + 1 - 1 = d from rfl, Int.add_mul, Int.mul_assoc, Int.mul_comm (partD d), unit_part, Int.mul_comm _ 1000] at hj
    exact hj
end Go.Proofs.YtpinmgoeapakdaaGreatDoor

namespace Go.Proofs.YtpinmgoeapakdaaGreatDoor
open Go.Lib

def redG (x y : Int) : Int := if y < 0 then -(Nat.gcd x.natAbs y.natAbs : Int) else (Nat.gcd x.natAbs y.natAbs : Int)
theorem gcd_ne {x y : Int} (hy : y ≠ 0) : 0 < Nat.gcd x.natAbs y.natAbs := Nat.gcd_pos_of_pos_right _ (by omega)
theorem redG_ne {x y : Int} (hy : y ≠ 0) : redG x y ≠ 0 := by
  have := gcd_ne (x := x) hy
  unfold redG
  split <;> omega
theorem red_parts {x y : Int} (hy : y ≠ 0) : x.fdiv (redG x y) = (Rat.divInt x y).num ∧ y.fdiv (redG x y) = ((Rat.divInt x y).den : Int) := by
  rw [Rat.num_divInt, Rat.den_divInt, if_neg hy]
  have hG := gcd_ne (x := x) hy
  have e : y.gcd x = Nat.gcd x.natAbs y.natAbs := by rw [Int.gcd_comm]; rfl
  have d1 : ((Nat.gcd x.natAbs y.natAbs : Nat) : Int) ∣ x := Int.ofNat_dvd_left.2 (Nat.gcd_dvd_left _ _)
  have d2 : ((Nat.gcd x.natAbs y.natAbs : Nat) : Int) ∣ y := Int.ofNat_dvd_left.2 (Nat.gcd_dvd_right _ _)
  rw [e]
  unfold redG
  generalize Nat.gcd x.natAbs y.natAbs = G at *
  obtain ⟨a, rfl⟩ := d1
  obtain ⟨b, rfl⟩ := d2
  have G0 : (G : Int) ≠ 0 := by omega
  have hb : b ≠ 0 := by rintro rfl; simp at hy
  have na : ((G : Int) * b).natAbs = G * b.natAbs := by rw [Int.natAbs_mul, Int.natAbs_natCast]
  by_cases h : (G : Int) * b < 0
  · rw [if_pos h, Int.sign_eq_neg_one_of_neg h]
    have hb0 : b < 0 := by
      rcases Int.lt_or_le b 0 with h1 | h1
      · exact h1
      · exact absurd h (by have := Int.mul_nonneg (show (0 : Int) ≤ G by omega) h1; omega)
    have e1 : ∀ z : Int, ((G : Int) * z).fdiv (-(G : Int)) = -z := fun z => by
      rw [show (G : Int) * z = -(G : Int) * (-z) by rw [Int.neg_mul_neg]]
      exact Int.mul_fdiv_cancel_left _ (by omega)
    refine ⟨?_, ?_⟩
    · rw [e1, show (-1 : Int) * ((G : Int) * a) = (G : Int) * (-a) by rw [Int.mul_neg, Int.neg_mul, Int.one_mul], Int.mul_ediv_cancel_left _ G0]
    · rw [e1, na, Nat.mul_div_cancel_left _ hG]; omega
  · rw [if_neg h]
    have hb0 : 0 < b := by
      rcases Int.lt_or_le 0 b with h1 | h1
      · exact h1
      · exact absurd (show (G : Int) * b < 0 from Int.mul_neg_of_pos_of_neg (by omega) (by omega)) h
    have hp : 0 < (G : Int) * b := Int.mul_pos (by omega) hb0
    rw [Int.sign_eq_one_of_pos hp, Int.one_mul]
    refine ⟨?_, ?_⟩
    · rw [Int.mul_fdiv_cancel_left _ G0, Int.mul_ediv_cancel_left _ G0]
    · rw [Int.mul_fdiv_cancel_left _ G0, na, Nat.mul_div_cancel_left _ hG]; omega
theorem red_le {x y : Int} (hy : y ≠ 0) : (Rat.divInt x y).num.natAbs ≤ x.natAbs ∧ (Rat.divInt x y).den ≤ y.natAbs := by
  rw [Rat.num_divInt, Rat.den_divInt, if_neg hy]
  refine ⟨?_, Nat.div_le_self _ _⟩
  refine Nat.le_trans (Int.natAbs_ediv_le_natAbs _ _) ?_
  rw [Int.natAbs_mul]
  rcases Int.lt_trichotomy y 0 with h | h | h
  · rw [Int.sign_eq_neg_one_of_neg h]; simp
  · exact absurd h hy
  · rw [Int.sign_eq_one_of_pos h]; simp
theorem redG_le {x y : Int} (hy : y ≠ 0) : (redG x y).natAbs ≤ y.natAbs := by
  have := Nat.gcd_le_right (n := y.natAbs) x.natAbs (by omega)
  unfold redG
  split <;> omega
theorem fit_le {a b : Int} (h : Fit a) (hb : b.natAbs ≤ a.natAbs) : Fit b := by
  unfold Fit at *
  exact Nat.lt_of_le_of_lt hb h
theorem red_fit {x y : Int} (hx : Fit x) (hy : Fit y) (h0 : y ≠ 0) : FitR (Rat.divInt x y) :=
  ⟨fit_le hx (red_le h0).1, fit_le hy (by rw [Int.natAbs_natCast]; exact (red_le h0).2)⟩

def SzR (k : Nat) (r : Rat) : Prop := r.num.natAbs < 10 ^ k ∧ r.den < 10 ^ k
theorem SzR.up {k m : Nat} {r : Rat} (h : SzR k r) (hk : k ≤ m) : SzR m r :=
  ⟨Nat.lt_of_lt_of_le h.1 (Nat.pow_le_pow_right (by omega) hk), Nat.lt_of_lt_of_le h.2 (Nat.pow_le_pow_right (by omega) hk)⟩
theorem pow_both {a b k m : Nat} (ha : a < 10 ^ k) (hb : b < 10 ^ m) : a * b < 10 ^ (k + m) := by
  rw [Nat.pow_add]; exact Nat.mul_lt_mul'' ha hb
theorem SzR.red {k : Nat} {x y : Int} (hy : y ≠ 0) (h1 : x.natAbs < 10 ^ k) (h2 : y.natAbs < 10 ^ k) : SzR k (Rat.divInt x y) :=
  ⟨Nat.lt_of_le_of_lt (red_le hy).1 h1, Nat.lt_of_le_of_lt (red_le hy).2 h2⟩
theorem den_mul_ne (a b : Rat) : ((a.den : Int) * b.den) ≠ 0 := Int.mul_ne_zero (by have := a.den_pos; omega) (by have := b.den_pos; omega)

theorem SzR.prods {k m : Nat} {a b : Rat} (ha : SzR k a) (hb : SzR m b) :
    (a.num * b.den).natAbs < 10 ^ (k + m) ∧ (b.num * a.den).natAbs < 10 ^ (k + m) ∧ ((a.den : Int) * b.den).natAbs < 10 ^ (k + m) ∧ (a.num * b.num).natAbs < 10 ^ (k + m) ∧
    (a.num * b.den + b.num * a.den).natAbs < 10 ^ (k + m + 1) ∧ (a.num * b.den - b.num * a.den).natAbs < 10 ^ (k + m + 1) ∧ ((a.den : Int) * b.num).natAbs < 10 ^ (k + m) := by
  have h1 : (a.num * b.den).natAbs < 10 ^ (k + m) := by rw [Int.natAbs_mul, Int.natAbs_natCast]; exact pow_both ha.1 hb.2
  have h2 : (b.num * a.den).natAbs < 10 ^ (k + m) := by rw [Int.natAbs_mul, Int.natAbs_natCast, Nat.add_comm]; exact pow_both hb.1 ha.2
  have h3 : ((a.den : Int) * b.den).natAbs < 10 ^ (k + m) := by rw [Int.natAbs_mul, Int.natAbs_natCast, Int.natAbs_natCast]; exact pow_both ha.2 hb.2
  have h4 : (a.num * b.num).natAbs < 10 ^ (k + m) := by rw [Int.natAbs_mul]; exact pow_both ha.1 hb.1
  have h7 : ((a.den : Int) * b.num).natAbs < 10 ^ (k + m) := by rw [Int.natAbs_mul, Int.natAbs_natCast]; exact pow_both ha.2 hb.1
  have hp : (10 : Nat) ^ (k + m + 1) = 10 * 10 ^ (k + m) := by rw [Nat.pow_succ, Nat.mul_comm]
  refine ⟨h1, h2, h3, h4, ?_, ?_, h7⟩
  all_goals
    rw [hp]
    generalize (10 : Nat) ^ (k + m) = P at *
    omega
theorem SzR.add {k m : Nat} {a b : Rat} (ha : SzR k a) (hb : SzR m b) : SzR (k + m + 1) (a + b) := by
  obtain ⟨_, _, h3, _, h5, _, _⟩ := SzR.prods ha hb
  rw [add_parts]
  exact SzR.red (den_mul_ne a b) h5 (Nat.lt_of_lt_of_le h3 (Nat.pow_le_pow_right (by omega) (by omega)))
theorem SzR.sub {k m : Nat} {a b : Rat} (ha : SzR k a) (hb : SzR m b) : SzR (k + m + 1) (a - b) := by
  obtain ⟨_, _, h3, _, _, h6, _⟩ := SzR.prods ha hb
  rw [sub_parts]
  exact SzR.red (den_mul_ne a b) h6 (Nat.lt_of_lt_of_le h3 (Nat.pow_le_pow_right (by omega) (by omega)))
theorem SzR.mul {k m : Nat} {a b : Rat} (ha : SzR k a) (hb : SzR m b) : SzR (k + m) (a * b) := by
  obtain ⟨_, _, h3, h4, _, _, _⟩ := SzR.prods ha hb
  rw [mul_parts]
  exact SzR.red (den_mul_ne a b) h4 h3
theorem num_ne {b : Rat} (hb : b ≠ 0) : b.num ≠ 0 := fun h => hb (Rat.num_eq_zero.1 h)
theorem SzR.div {k m : Nat} {a b : Rat} (ha : SzR k a) (hb : SzR m b) (h0 : b ≠ 0) : SzR (k + m) (a / b) := by
  obtain ⟨h1, _, _, _, _, _, h7⟩ := SzR.prods ha hb
  rw [div_parts]
  exact SzR.red (Int.mul_ne_zero (by have := a.den_pos; omega) (num_ne h0)) h1 h7
theorem SzR.fit {k : Nat} {r : Rat} (h : SzR k r) (hk : k ≤ 4096) : FitR r := by
  unfold FitR Fit
  have h2 := h.up (m := 4096) hk
  exact ⟨h2.1, by rw [Int.natAbs_natCast]; exact h2.2⟩
theorem SzR.int {k : Nat} {z : Int} (h : z.natAbs < 10 ^ k) (hk : 0 < k) : SzR k (z : Rat) := by
  refine ⟨by rw [Rat.num_intCast]; exact h, ?_⟩
  rw [Rat.den_intCast]
  exact Nat.one_lt_pow (by omega) (by omega)
theorem SzR.neg {k : Nat} {r : Rat} (h : SzR k r) : SzR k (-r) := by
  refine ⟨by rw [Rat.neg_num, Int.natAbs_neg]; exact h.1, by rw [Rat.neg_den]; exact h.2⟩

theorem floor_fdiv (r : Rat) : r.num.fdiv (r.den : Int) = r.floor := by
  rw [Rat.floor_def, Int.fdiv_eq_ediv_of_nonneg _ (by omega)]
theorem cast_le {a b : Int} : (a : Rat) ≤ (b : Rat) ↔ a ≤ b := Rat.intCast_le_intCast
theorem cast_lt {a b : Int} : (a : Rat) < (b : Rat) ↔ a < b := Rat.intCast_lt_intCast

theorem floor_unique {r : Rat} {z : Int} (h1 : (z : Rat) ≤ r) (h2 : r < (z : Rat) + 1) : r.floor = z := by
  have a1 := Rat.floor_le r
  have a2 := Rat.lt_floor_add_one r
  have b1 : z < r.floor + 1 := cast_lt.1 (by rw [Rat.intCast_add] at *; grind)
  have b2 : r.floor < z + 1 := cast_lt.1 (by rw [Rat.intCast_add]; have : ((1 : Int) : Rat) = 1 := rfl; grind)
  omega
end Go.Proofs.YtpinmgoeapakdaaGreatDoor

namespace Go.Proofs.YtpinmgoeapakdaaGreatDoor
open Go.Lib

theorem four_dval (a b c e : UInt8) : dval [a, b, c, e] = 1000 * (a.toNat - 48) + 100 * (b.toNat - 48) + 10 * (c.toNat - 48) + (e.toNat - 48) := by
  unfold dval
  simp only [List.foldl_cons, List.foldl_nil]
  omega

theorem rest_text {d : Nat} {r : Int} (hd : 1 ≤ d) (hd3 : d ≤ 3) (h0 : 0 ≤ r) (h1 : r < partD d) : ((itoa (1000 + r * unitD d)).drop 1).take d = padD d r := by
  have hx : 0 ≤ r * unitD d ∧ r * unitD d < 1000 := by
    rcases unit_cases d with ⟨e, f⟩ | ⟨e, f⟩ | ⟨e, f⟩ | ⟨e, f⟩ <;> rw [f] at h1 <;> rw [e] <;> omega
  have hp : partD d = 10 ^ d := by
    obtain rfl | rfl | rfl : d = 1 ∨ d = 2 ∨ d = 3 := by omega
    all_goals rfl
  have hl := padD_len (d := d) h0 (by omega) (by rw [← hp]; exact h1)
  have hv := padD_dval (d := d) h0
  have hg := padD_dgs (d := d) h0
  have l1 := itoa_lt (z := 1000 + r * unitD d) (k := 4) (by omega) (by omega) (by omega)
  have l2 : ¬ (itoa (1000 + r * unitD d)).length ≤ 3 := by
    rw [itoa_pos' (by omega), dec_len_iff (k := 3) (by omega)]
    omega
  have lv := itoa_dval (z := 1000 + r * unitD d) (by omega)
  have lg := itoa_dgs (z := 1000 + r * unitD d) (by omega)
  generalize itoa (1000 + r * unitD d) = L at *
  match L, l1, l2, lv, lg with
  | [], l1, _, _, _ => simp at l1
  | [a], _, l2, _, _ => simp at l2
  | [a, b], _, l2, _, _ => simp at l2
  | [a, b, c], _, l2, _, _ => simp at l2
  | _ :: _ :: _ :: _ :: _ :: _, l1, _, _, _ => simp at l1
  | [a, b, c, e], _, _, lv, lg =>
    rw [four_dval] at lv
    have ga := isDg_iff.1 (lg a (by simp))
    have gb := isDg_iff.1 (lg b (by simp))
    have gc := isDg_iff.1 (lg c (by simp))
    have ge := isDg_iff.1 (lg e (by simp))
    refine dval_inj (k := d) (by simp; omega) hl (Dgs.take (Dgs.drop lg 1) d) hg ?_
    obtain rfl | rfl | rfl : d = 1 ∨ d = 2 ∨ d = 3 := by omega
    · have e1 : unitD 1 = 100 := rfl
      rw [e1] at lv hx
      show dval [b] = _
      rw [dval_one]
      omega
    · have e1 : unitD 2 = 10 := rfl
      rw [e1] at lv hx
      have e2 : dval [b, c] = 10 * (b.toNat - 48) + (c.toNat - 48) := by unfold dval; simp only [List.foldl_cons, List.foldl_nil]; omega
      show dval [b, c] = _
      rw [e2]
      omega
    · have e1 : unitD 3 = 1 := rfl
      rw [e1] at lv hx
      have e2 : dval [b, c, e] = 100 * (b.toNat - 48) + 10 * (c.toNat - 48) + (e.toNat - 48) := by unfold dval; simp only [List.foldl_cons, List.foldl_nil]; omega
      show dval [b, c, e] = _
      rw [e2]
      omega

def halfR : Rat := mkRat 1 2
theorem half_add : halfR + halfR = 1 := by decide +kernel
theorem floor_bd (r : Rat) : (r.floor : Rat) ≤ r ∧ r < (r.floor : Rat) + 1 := by
  have a2 := Rat.lt_floor_add_one r
  refine ⟨Rat.floor_le r, ?_⟩
  rw [Rat.intCast_add] at a2
  exact a2

def mixR (a b w : Rat) : Rat := a + (b - a) * w
theorem half_two : halfR * 2 = 1 := by decide +kernel

theorem near_cases (r : Rat) : ((r + halfR).floor = r.floor ∧ 2 * r < 2 * (r.floor : Rat) + 1) ∨ ((r + halfR).floor = r.floor + 1 ∧ 2 * (r.floor : Rat) + 1 ≤ 2 * r) := by
  obtain ⟨f1, f2⟩ := floor_bd r
  have h2 := half_two
  by_cases h : 2 * r < 2 * (r.floor : Rat) + 1
  · refine .inl ⟨floor_unique ?_ ?_, h⟩ <;> grind
  · refine .inr ⟨floor_unique ?_ ?_, Rat.not_lt.1 h⟩
    · rw [Rat.intCast_add]; have : ((1 : Int) : Rat) = 1 := rfl; grind
    · rw [Rat.intCast_add]; have : ((1 : Int) : Rat) = 1 := rfl; grind
theorem den_pos (r : Rat) : (0 : Rat) < ((r.den : Int) : Rat) := cast_lt.2 (show (0 : Int) < (r.den : Int) by have := r.den_pos; omega)
theorem num_eq (r : Rat) : r * ((r.den : Int) : Rat) = (r.num : Rat) := by
  have h := rat_div r
  rw [Rat.divInt_eq_div, Rat.div_def] at h
  have hd : ((r.den : Int) : Rat) ≠ 0 := by
    have := den_pos r
    grind
  have : r * ((r.den : Int) : Rat) = (r.num : Rat) * ((r.den : Int) : Rat)⁻¹ * ((r.den : Int) : Rat) := by rw [h]
  rw [this, Rat.mul_assoc, Rat.inv_mul_cancel _ hd, Rat.mul_one]

theorem rest_lt (r : Rat) : (r.num.fmod (r.den : Int) < (r.den : Int) - r.num.fmod (r.den : Int)) ↔ 2 * r < 2 * (r.floor : Rat) + 1 := by
  have h1 := (fd_spec r.num (y := (r.den : Int)) (by have := r.den_pos; omega)).1
  rw [floor_fdiv] at h1
  have hd := den_pos r
  have hn := num_eq r
  generalize r.num.fmod (r.den : Int) = m at *
  have hc : m < (r.den : Int) - m ↔ 2 * r.num < 2 * ((r.den : Int) * r.floor) + (r.den : Int) := by omega
  rw [hc, ← cast_lt]
  have e : ((2 * r.num : Int) : Rat) = 2 * (r.num : Rat) := by rw [Rat.intCast_mul]; rfl
  have e2 : ((2 * ((r.den : Int) * r.floor) + (r.den : Int) : Int) : Rat) = 2 * (((r.den : Int) : Rat) * (r.floor : Rat)) + ((r.den : Int) : Rat) := by
    rw [Rat.intCast_add, Rat.intCast_mul, Rat.intCast_mul]; rfl
  rw [e, e2, ← hn]
  generalize ((r.den : Int) : Rat) = d at *
  constructor
  · intro h
    by_cases h2 : 2 * r < 2 * (r.floor : Rat) + 1
    · exact h2
    · have := Rat.mul_le_mul_of_nonneg_right (Rat.not_lt.1 h2) (show (0 : Rat) ≤ d by grind)
      grind
  · intro h
    have := Rat.mul_lt_mul_of_pos_right h hd
    grind
theorem near_rest (r : Rat) : (r.num.fmod (r.den : Int) < (r.den : Int) - r.num.fmod (r.den : Int) ∧ (r + halfR).floor = r.floor) ∨ (¬ r.num.fmod (r.den : Int) < (r.den : Int) - r.num.fmod (r.den : Int) ∧ (r + halfR).floor = r.floor + 1) := by
  rcases near_cases r with ⟨e, h⟩ | ⟨e, h⟩
  · exact .inl ⟨(rest_lt r).2 h, e⟩
  · exact .inr ⟨fun h2 => absurd ((rest_lt r).1 h2) (Rat.not_lt.2 h), e⟩
theorem cast_add3 (a b c : Int) : ((a + b + c : Int) : Rat) = (a : Rat) + (b : Rat) + (c : Rat) := by rw [Rat.intCast_add, Rat.intCast_add]

theorem twice_floor (r : Rat) : ((r.floor + (r + halfR).floor : Int) : Rat) ≤ 2 * r ∧ 2 * r < ((r.floor + (r + halfR).floor : Int) : Rat) + 1 := by
  obtain ⟨f1, f2⟩ := floor_bd r
  rw [Rat.intCast_add]
  rcases near_cases r with ⟨e, h⟩ | ⟨e, h⟩
  · rw [e]; constructor <;> grind
  · rw [e, Rat.intCast_add]; have : ((1 : Int) : Rat) = 1 := rfl; constructor <;> grind

theorem eight_floor (r : Rat) : (r * Rat.divInt 255 65535 + halfR).floor = (r.floor + (r + halfR).floor + 257) / 514 := by
  obtain ⟨t1, t2⟩ := twice_floor r
  generalize r.floor + (r + halfR).floor = s at *
  have hw : Rat.divInt 255 65535 * 257 = 1 := by decide +kernel
  generalize Rat.divInt 255 65535 = w at *
  have h2 := half_two
  have a1 : 514 * ((s + 257) / 514) ≤ s + 257 := by omega
  have a2 : s + 258 ≤ 514 * ((s + 257) / 514) + 514 := by omega
  generalize (s + 257) / 514 = q at *
  have b1 := cast_le.2 a1
  have b2 := cast_le.2 a2
  simp only [Rat.intCast_add, Rat.intCast_mul] at b1 b2
  have c1 : ((514 : Int) : Rat) = 514 := rfl
  have c2 : ((257 : Int) : Rat) = 257 := rfl
  have c3 : ((258 : Int) : Rat) = 258 := rfl
  rw [c1, c2] at b1
  rw [c1, c3] at b2
  have e1 : r * w * 257 = r := by grind
  refine floor_unique ?_ ?_ <;> grind
end Go.Proofs.YtpinmgoeapakdaaGreatDoor

namespace Go.Proofs.YtpinmgoeapakdaaGreatDoor

abbrev PT := Int × Int
def isLev (v : Int) : Prop := 0 ≤ v ∧ v ≤ 65535
instance (v : Int) : Decidable (isLev v) := by unfold isLev; infer_instance

def scanC : Int → List PT → Int
  | _, [] => 0
  | p, q :: t => if ¬ (isLev q.1 ∧ isLev q.2) then 2 else if q.1 ≤ p then 9 else scanC q.1 t
def firstX (c : List PT) : Int := (c.headD (0, 0)).1
def lastX (c : List PT) : Int := (c.getLastD (0, 0)).1
def firstY (c : List PT) : Int := (c.headD (0, 0)).2
def lastY (c : List PT) : Int := (c.getLastD (0, 0)).2

def chkC (c : List PT) : Int :=
  if c.length < 2 then 14 else if 16 < c.length then 5 else if scanC (-1) c ≠ 0 then scanC (-1) c else if firstX c ≠ 0 ∨ lastX c ≠ 65535 then 14 else 0

def UpC : Int → List PT → Prop
  | _, [] => True
  | p, q :: t => (isLev q.1 ∧ isLev q.2) ∧ p < q.1 ∧ UpC q.1 t
theorem scan_up : ∀ {p : Int} {c : List PT}, scanC p c = 0 ↔ UpC p c
  | _, [] => by simp [scanC, UpC]
  | p, q :: t => by
    unfold scanC UpC
    by_cases h1 : isLev q.1 ∧ isLev q.2
    · rw [if_neg (by simpa using h1)]
      by_cases h2 : q.1 ≤ p
      · rw [if_pos h2]
        refine ⟨(fun h => by cases h), fun h => by omega⟩
      · rw [if_neg h2, scan_up]
        exact ⟨fun h => ⟨h1, by omega, h⟩, fun h => h.2.2⟩
    · rw [if_pos h1]
      exact ⟨(fun h => by cases h), fun h => absurd h.1 h1⟩

structure OkC (c : List PT) : Prop where
  two : 2 ≤ c.length
  few : c.length ≤ 16
  up : UpC (-1) c
  first : firstX c = 0
  last : lastX c = 65535
theorem chkC_ok {c : List PT} : chkC c = 0 ↔ OkC c := by
  unfold chkC
  by_cases h1 : c.length < 2
  · rw [if_pos h1]; exact ⟨(fun h => by cases h), fun h => by have := h.two; omega⟩
  rw [if_neg h1]
  by_cases h2 : 16 < c.length
  · rw [if_pos h2]; exact ⟨(fun h => by cases h), fun h => by have := h.few; omega⟩
  rw [if_neg h2]
  by_cases h3 : scanC (-1) c = 0
  · rw [if_neg (by simpa using h3)]
    by_cases h4 : firstX c ≠ 0 ∨ lastX c ≠ 65535
    · rw [if_pos h4]
      refine ⟨(fun h => by cases h), fun h => ?_⟩
      rcases h4 with h4 | h4
      · exact absurd h.first h4
      · exact absurd h.last h4
    · rw [if_neg h4]
      exact ⟨fun _ => ⟨by omega, by omega, scan_up.1 h3, by omega, by omega⟩, fun _ => rfl⟩
  · rw [if_pos h3]
    exact ⟨fun h => absurd h h3, fun h => absurd (scan_up.2 h.up) h3⟩

def segR (a b : PT) (r : Rat) : Rat := mixR (a.2 : Rat) (b.2 : Rat) ((r - (a.1 : Rat)) / ((b.1 - a.1 : Int) : Rat))

def valC : List PT → Rat → Rat
  | a :: b :: t, r => if r ≤ (b.1 : Rat) then segR a b r else valC (b :: t) r
  | [a], _ => (a.2 : Rat)
  | [], _ => 0

theorem cast_pos {z : Int} (h : 0 < z) : (0 : Rat) < (z : Rat) := by
  have := cast_lt.2 h
  exact this
theorem rat_cast0 : ((0 : Int) : Rat) = 0 := rfl

theorem segR_eq {a b : PT} {r : Rat} (h : a.1 < b.1) : (segR a b r - (a.2 : Rat)) * ((b.1 : Rat) - (a.1 : Rat)) = ((b.2 : Rat) - (a.2 : Rat)) * (r - (a.1 : Rat)) := by
  unfold segR mixR
  rw [Rat.intCast_sub]
  have hd : ((b.1 : Rat) - (a.1 : Rat)) ≠ 0 := by
    have := cast_lt.2 h
    grind
  generalize (b.1 : Rat) - (a.1 : Rat) = d at *
  generalize (r - (a.1 : Rat)) = s at *
  have : s / d * d = s := by rw [Rat.div_def, Rat.mul_assoc, Rat.inv_mul_cancel _ hd, Rat.mul_one]
  grind
theorem mul_cancel {x y d : Rat} (hd : d ≠ 0) (h : x * d = y * d) : x = y := by
  have := congrArg (· * d⁻¹) h
  simp only [Rat.mul_assoc, Rat.mul_inv_cancel _ hd, Rat.mul_one] at this
  exact this
theorem seg_unique {a b : PT} {r y : Rat} (h : a.1 < b.1) (hy : (y - (a.2 : Rat)) * ((b.1 : Rat) - (a.1 : Rat)) = ((b.2 : Rat) - (a.2 : Rat)) * (r - (a.1 : Rat))) : segR a b r = y := by
  have h1 := segR_eq (r := r) h
  have hd : ((b.1 : Rat) - (a.1 : Rat)) ≠ 0 := by
    have := cast_lt.2 h
    grind
  have := mul_cancel hd (h1.trans hy.symm)
  grind
theorem seg_left {a b : PT} (h : a.1 < b.1) : segR a b (a.1 : Rat) = (a.2 : Rat) := seg_unique h (by grind)
theorem seg_right {a b : PT} (h : a.1 < b.1) : segR a b (b.1 : Rat) = (b.2 : Rat) := seg_unique h (by grind)
theorem le_mul {x y d : Rat} (hd : 0 < d) (h : x * d ≤ y * d) : x ≤ y := by
  by_cases h1 : y < x
  · exact absurd (Rat.mul_lt_mul_of_pos_right h1 hd) (Rat.not_lt.2 h)
  · exact Rat.not_lt.1 h1

theorem seg_between {a b : PT} {r : Rat} (h : a.1 < b.1) (h0 : (a.1 : Rat) ≤ r) (h1 : r ≤ (b.1 : Rat)) :
    ((min a.2 b.2 : Int) : Rat) ≤ segR a b r ∧ segR a b r ≤ ((max a.2 b.2 : Int) : Rat) := by
  have e := segR_eq (r := r) h
  have hd : (0 : Rat) < (b.1 : Rat) - (a.1 : Rat) := by
    have := cast_lt.2 h
    grind
  generalize segR a b r = y at *
  rcases Int.le_total a.2 b.2 with hy | hy
  · rw [Int.min_eq_left hy, Int.max_eq_right hy]
    have hy' := cast_le.2 hy
    have p1 : (0 : Rat) ≤ ((b.2 : Rat) - (a.2 : Rat)) * (r - (a.1 : Rat)) := Rat.mul_nonneg (by grind) (by grind)
    have p2 : (0 : Rat) ≤ ((b.2 : Rat) - (a.2 : Rat)) * ((b.1 : Rat) - r) := Rat.mul_nonneg (by grind) (by grind)
    exact ⟨le_mul hd (by grind), le_mul hd (by grind)⟩
  · rw [Int.min_eq_right hy, Int.max_eq_left hy]
    have hy' := cast_le.2 hy
    have p1 : (0 : Rat) ≤ ((a.2 : Rat) - (b.2 : Rat)) * (r - (a.1 : Rat)) := Rat.mul_nonneg (by grind) (by grind)
    have p2 : (0 : Rat) ≤ ((a.2 : Rat) - (b.2 : Rat)) * ((b.1 : Rat) - r) := Rat.mul_nonneg (by grind) (by grind)
    exact ⟨le_mul hd (by grind), le_mul hd (by grind)⟩

theorem valC_two (a b : PT) (t : List PT) (r : Rat) : valC (a :: b :: t) r = if r ≤ (b.1 : Rat) then segR a b r else valC (b :: t) r := by rw [valC]

theorem valC_seg : ∀ {c : List PT} {p : Int} {i : Nat} {r : Rat}, UpC p c → (h : i + 1 < c.length) → ((c[i]'(by omega)).1 : Rat) ≤ r → r ≤ (c[i + 1].1 : Rat) → valC c r = segR (c[i]'(by omega)) c[i + 1] r
  | a :: b :: t, p, 0, r, _, _, _, h1 => by
    have h1' : r ≤ (b.1 : Rat) := h1
    rw [valC_two, if_pos h1']; rfl
  | a :: b :: t, p, i + 1, r, hu, h, h0, h1 => by
    have hb : UpC a.1 (b :: t) := hu.2.2
    have hi := valC_seg (c := b :: t) (i := i) (r := r) hb (by simpa using h) h0 h1
    rw [valC_two]
    by_cases hr : r ≤ (b.1 : Rat)
    · rw [if_pos hr]
      cases i with
      | zero =>
        obtain rfl : r = (b.1 : Rat) := Rat.le_antisymm hr h0
        match t, h, hu with
        | d :: t, _, hu =>
          show segR a b _ = segR b d _
          rw [seg_right hu.2.2.2.1, seg_left hu.2.2.2.2.2.1]
      | succ i =>
        exfalso
        have hlt : ∀ (t : List PT) (q : Int) (i : Nat) (h : i < t.length), UpC q t → q < t[i].1 := by
          intro t
          induction t with
          | nil => intro q i h; simp at h
          | cons d t ih =>
            intro q i h hu
            cases i with
            | zero => exact hu.2.1
            | succ i => exact Int.lt_trans hu.2.1 (ih d.1 i (by simpa using h) hu.2.2)
        have h3 : b.1 < ((a :: b :: t)[i + 1 + 1]'(by omega)).1 := by
          show b.1 < (t[i]'(by simp at h; omega)).1
          exact hlt t b.1 i _ hb.2.2
        have := cast_lt.2 h3
        grind
    · rw [if_neg hr]; exact hi
  | [a], _, i, _, _, h, _, _ => by simp at h
  | [], _, i, _, _, h, _, _ => by simp at h
theorem up_lt : ∀ {t : List PT} {q : Int} {i : Nat} (h : i < t.length), UpC q t → q < t[i].1
  | d :: t, q, 0, _, hu => hu.2.1
  | d :: t, q, i + 1, h, hu => by
    have h0 : i < t.length := by simpa using h
    have h1 := up_lt h0 hu.2.2
    exact Int.lt_trans hu.2.1 h1
theorem up_lev : ∀ {t : List PT} {q : Int} {i : Nat} (h : i < t.length), UpC q t → isLev t[i].1 ∧ isLev t[i].2
  | d :: t, q, 0, _, hu => hu.1
  | d :: t, q, i + 1, h, hu => by
    have h0 : i < t.length := by simpa using h
    exact up_lev h0 hu.2.2
theorem up_step : ∀ {t : List PT} {q : Int} {i : Nat} (h : i + 1 < t.length), UpC q t → (t[i]'(by omega)).1 < t[i + 1].1
  | d :: t, q, 0, h, hu => by
    have h0 : 0 < t.length := by simpa using h
    exact up_lt h0 hu.2.2
  | d :: t, q, i + 1, h, hu => by
    have h0 : i + 1 < t.length := by simpa using h
    exact up_step h0 hu.2.2

theorem seg_exists : ∀ {c : List PT} {r : Rat}, 2 ≤ c.length → (firstX c : Rat) ≤ r → r ≤ (lastX c : Rat) → ∃ i, ∃ h : i + 1 < c.length, ((c[i]'(by omega)).1 : Rat) ≤ r ∧ r ≤ (c[i + 1].1 : Rat)
  | [a, b], r, _, h0, h1 => ⟨0, by simp, h0, h1⟩
  | a :: b :: d :: t, r, _, h0, h1 => by
    by_cases h : r ≤ (b.1 : Rat)
    · exact ⟨0, by simp, h0, h⟩
    · obtain ⟨i, hi, h2, h3⟩ := seg_exists (c := b :: d :: t) (r := r) (by simp) (by show (b.1 : Rat) ≤ r; grind) h1
      exact ⟨i + 1, by simpa using hi, h2, h3⟩
  | [a], _, h, _, _ => by simp at h
  | [], _, h, _, _ => by simp at h
theorem OkC.seg {c : List PT} {r : Rat} (h : OkC c) (h0 : 0 ≤ r) (h1 : r ≤ 65535) : ∃ i, ∃ hi : i + 1 < c.length, ((c[i]'(by omega)).1 : Rat) ≤ r ∧ r ≤ (c[i + 1].1 : Rat) ∧ valC c r = segR (c[i]'(by omega)) c[i + 1] r ∧ (c[i]'(by omega)).1 < c[i + 1].1 := by
  obtain ⟨i, hi, h2, h3⟩ := seg_exists h.two (r := r) (by rw [h.first]; exact h0) (by rw [h.last]; exact h1)
  exact ⟨i, hi, h2, h3, valC_seg h.up hi h2 h3, up_step hi h.up⟩
theorem cast_lev {z : Int} (h : isLev z) : (0 : Rat) ≤ (z : Rat) ∧ (z : Rat) ≤ 65535 := ⟨cast_le.2 h.1, cast_le.2 h.2⟩

theorem OkC.lev {c : List PT} {r : Rat} (h : OkC c) (h0 : 0 ≤ r) (h1 : r ≤ 65535) : 0 ≤ valC c r ∧ valC c r ≤ 65535 := by
  obtain ⟨i, hi, h2, h3, e, hs⟩ := h.seg h0 h1
  obtain ⟨b1, b2⟩ := seg_between hs h2 h3
  have l1 := (up_lev (i := i) (by omega) h.up).2
  have l2 := (up_lev hi h.up).2
  rw [e]
  unfold isLev at l1 l2
  have c1 := (cast_lev (z := min (c[i]'(by omega)).2 c[i + 1].2) (by unfold isLev; omega)).1
  have c2 := (cast_lev (z := max (c[i]'(by omega)).2 c[i + 1].2) (by unfold isLev; omega)).2
  exact ⟨Rat.le_trans c1 b1, Rat.le_trans b2 c2⟩

theorem OkC.at {c : List PT} (h : OkC c) {i : Nat} (hi : i < c.length) : valC c (c[i].1 : Rat) = (c[i].2 : Rat) := by
  have h2 := h.two
  by_cases h3 : i + 1 < c.length
  · rw [valC_seg h.up h3 (Rat.le_refl) (by have := cast_lt.2 (up_step h3 h.up); grind)]
    exact seg_left (up_step h3 h.up)
  · obtain ⟨j, rfl⟩ : ∃ j, i = j + 1 := ⟨i - 1, by omega⟩
    rw [valC_seg h.up hi (by have := cast_lt.2 (up_step hi h.up); grind) (Rat.le_refl)]
    exact seg_right (up_step hi h.up)

def flipC (c : List PT) : List PT := c.map fun q => (q.1, 65535 - q.2)
theorem flip_up : ∀ {p : Int} {c : List PT}, UpC p c → UpC p (flipC c)
  | _, [], _ => trivial
  | p, q :: t, h => by
    obtain ⟨⟨h1, h2⟩, h3, h4⟩ := h
    unfold isLev at h2
    exact ⟨⟨h1, by unfold isLev; show 0 ≤ 65535 - q.2 ∧ 65535 - q.2 ≤ 65535; omega⟩, h3, flip_up h4⟩
theorem flip_flip (c : List PT) : flipC (flipC c) = c := by
  unfold flipC
  rw [List.map_map]
  conv => rhs; rw [← List.map_id c]
  apply List.map_congr_left
  intro q _
  show (q.1, 65535 - (65535 - q.2)) = q
  rw [show 65535 - (65535 - q.2) = q.2 by omega]
theorem flip_ok {c : List PT} (h : OkC c) : OkC (flipC c) := by
  obtain ⟨h1, h2, h3, h4, h5⟩ := h
  refine ⟨by unfold flipC; rw [List.length_map]; exact h1, by unfold flipC; rw [List.length_map]; exact h2, flip_up h3, ?_, ?_⟩
  · match c, h4 with
    | q :: t, h4 => exact h4
    | [], h4 => exact h4
  · have : ∀ (c : List PT), lastX (flipC c) = lastX c := by
      intro c
      unfold lastX flipC
      rw [List.getLastD_eq_getLast?, List.getLastD_eq_getLast?, List.getLast?_map]
      cases c.getLast? <;> rfl
    rw [this]; exact h5
theorem cast_flip (z : Int) : ((65535 - z : Int) : Rat) = 65535 - (z : Rat) := by rw [Rat.intCast_sub]; rfl
theorem flip_val : ∀ {p : Int} {c : List PT} {r : Rat}, UpC p c → 2 ≤ c.length → valC (flipC c) r = 65535 - valC c r
  | p, a :: b :: t, r, hu, _ => by
    show valC ((a.1, 65535 - a.2) :: (b.1, 65535 - b.2) :: flipC t) r = _
    have hab : a.1 < b.1 := hu.2.2.2.1
    rw [valC_two, valC_two]
    by_cases h : r ≤ (b.1 : Rat)
    · rw [if_pos h, if_pos h]
      have e := segR_eq (r := r) hab
      refine seg_unique (a := (a.1, 65535 - a.2)) (b := (b.1, 65535 - b.2)) hab ?_
      simp only [cast_flip]
      grind
    · rw [if_neg h, if_neg h]
      match t, hu with
      | [], _ =>
        show ((65535 - b.2 : Int) : Rat) = 65535 - (b.2 : Rat)
        exact cast_flip _
      | d :: t, hu => exact flip_val (c := b :: d :: t) hu.2.2 (by simp)
  | _, [a], _, _, h => by simp at h
  | _, [], _, _, h => by simp at h
end Go.Proofs.YtpinmgoeapakdaaGreatDoor

namespace Go.Proofs.YtpinmgoeapakdaaGreatDoor

def upY : List PT → Bool
  | a :: b :: t => decide (a.2 < b.2) && upY (b :: t)
  | _ => true
def downY : List PT → Bool
  | a :: b :: t => decide (b.2 < a.2) && downY (b :: t)
  | _ => true

def slC (c : List PT) : Int := if upY c then 1 else if downY c then -1 else 0
theorem upY_step : ∀ {c : List PT} {i : Nat} (h : i + 1 < c.length), upY c = true → (c[i]'(by omega)).2 < c[i + 1].2
  | a :: b :: t, 0, _, h => by
    rw [upY, Bool.and_eq_true, decide_eq_true_eq] at h
    exact h.1
  | a :: b :: t, i + 1, hi, h => by
    rw [upY, Bool.and_eq_true] at h
    have h0 : i + 1 < (b :: t).length := by simpa using hi
    exact upY_step h0 h.2
  | [a], _, h, _ => by simp at h
  | [], _, h, _ => by simp at h
theorem upY_of : ∀ {c : List PT}, (∀ i (h : i + 1 < c.length), (c[i]'(by omega)).2 < c[i + 1].2) → upY c = true
  | a :: b :: t, h => by
    rw [upY, Bool.and_eq_true, decide_eq_true_eq]
    exact ⟨h 0 (by simp), upY_of fun i hi => h (i + 1) (by simpa using hi)⟩
  | [a], _ => rfl
  | [], _ => rfl
theorem downY_step : ∀ {c : List PT} {i : Nat} (h : i + 1 < c.length), downY c = true → c[i + 1].2 < (c[i]'(by omega)).2
  | a :: b :: t, 0, _, h => by
    rw [downY, Bool.and_eq_true, decide_eq_true_eq] at h
    exact h.1
  | a :: b :: t, i + 1, hi, h => by
    rw [downY, Bool.and_eq_true] at h
    have h0 : i + 1 < (b :: t).length := by simpa using hi
    exact downY_step h0 h.2
  | [a], _, h, _ => by simp at h
  | [], _, h, _ => by simp at h
theorem downY_of : ∀ {c : List PT}, (∀ i (h : i + 1 < c.length), c[i + 1].2 < (c[i]'(by omega)).2) → downY c = true
  | a :: b :: t, h => by
    rw [downY, Bool.and_eq_true, decide_eq_true_eq]
    exact ⟨h 0 (by simp), downY_of fun i hi => h (i + 1) (by simpa using hi)⟩
  | [a], _ => rfl
  | [], _ => rfl
theorem slC_cases (c : List PT) : (slC c = 1 ∧ upY c = true) ∨ (slC c = -1 ∧ downY c = true) ∨ slC c = 0 := by
  unfold slC
  cases h1 : upY c
  · cases h2 : downY c
    · exact .inr (.inr rfl)
    · exact .inr (.inl ⟨rfl, rfl⟩)
  · exact .inl ⟨rfl, rfl⟩
theorem down_not_up {c : List PT} (h : 2 ≤ c.length) (hd : downY c = true) : upY c = false := by
  cases hu : upY c
  · rfl
  · have h1 := upY_step (c := c) (i := 0) (by omega) hu
    have h2 := downY_step (c := c) (i := 0) (by omega) hd
    omega
theorem slC_up {c : List PT} (h : upY c = true) : slC c = 1 := by unfold slC; rw [h]; rfl
theorem slC_down {c : List PT} (h2 : 2 ≤ c.length) (h : downY c = true) : slC c = -1 := by unfold slC; rw [down_not_up h2 h, h]; rfl
theorem flip_downY : ∀ {c : List PT}, downY c = true → upY (flipC c) = true
  | a :: b :: t, h => by
    rw [downY, Bool.and_eq_true, decide_eq_true_eq] at h
    show upY ((a.1, 65535 - a.2) :: (b.1, 65535 - b.2) :: flipC t) = true
    rw [upY, Bool.and_eq_true, decide_eq_true_eq]
    exact ⟨by show 65535 - a.2 < 65535 - b.2; omega, flip_downY h.2⟩
  | [a], _ => rfl
  | [], _ => rfl

theorem seg_mono {a b : PT} {v w : Rat} (h : a.1 < b.1) (hy : a.2 < b.2) (hvw : v < w) : segR a b v < segR a b w := by
  have e1 := segR_eq (r := v) h
  have e2 := segR_eq (r := w) h
  have hd := cast_lt.2 h
  have hy' := cast_lt.2 hy
  generalize segR a b v = x at *
  generalize segR a b w = y at *
  by_cases hxy : x < y
  · exact hxy
  · exfalso
    have h1 : (y - (a.2 : Rat)) * ((b.1 : Rat) - (a.1 : Rat)) ≤ (x - (a.2 : Rat)) * ((b.1 : Rat) - (a.1 : Rat)) := Rat.mul_le_mul_of_nonneg_right (by have := Rat.not_lt.1 hxy; grind) (by grind)
    have h2 : ((b.2 : Rat) - (a.2 : Rat)) * (v - (a.1 : Rat)) < ((b.2 : Rat) - (a.2 : Rat)) * (w - (a.1 : Rat)) := Rat.mul_lt_mul_of_pos_left (by grind) (by grind)
    grind

theorem valC_mono : ∀ {c : List PT} {p : Int} {v w : Rat}, UpC p c → upY c = true → 2 ≤ c.length → v < w → w ≤ (lastX c : Rat) → valC c v < valC c w
  | [a, b], p, v, w, hu, hy, _, hvw, hw => by
    have hw' : w ≤ (b.1 : Rat) := hw
    have hb : v ≤ (b.1 : Rat) := by grind
    rw [valC_two, valC_two, if_pos hb, if_pos hw']
    exact seg_mono hu.2.2.2.1 (upY_step (c := [a, b]) (i := 0) (by simp) hy) hvw
  | a :: b :: d :: t, p, v, w, hu, hy, _, hvw, hw => by
    have hab : a.1 < b.1 := hu.2.2.2.1
    have hy1 : a.2 < b.2 := upY_step (c := a :: b :: d :: t) (i := 0) (by simp) hy
    have hyt : upY (b :: d :: t) = true := by rw [upY, Bool.and_eq_true] at hy; exact hy.2
    have hl : lastX (a :: b :: d :: t) = lastX (b :: d :: t) := rfl
    rw [hl] at hw
    rw [valC_two a b, valC_two a b]
    by_cases h1 : w ≤ (b.1 : Rat)
    · rw [if_pos h1, if_pos (by grind)]
      exact seg_mono hab hy1 hvw
    · rw [if_neg h1]
      have hbv : valC (b :: d :: t) (b.1 : Rat) = (b.2 : Rat) := by
        have hbd : b.1 < d.1 := hu.2.2.2.2.2.1
        rw [valC_two, if_pos (by have := cast_lt.2 hbd; grind), seg_left hbd]
      have hm := valC_mono (c := b :: d :: t) (v := (b.1 : Rat)) (w := w) hu.2.2 hyt (by simp) (by grind) hw
      by_cases h2 : v ≤ (b.1 : Rat)
      · rw [if_pos h2]
        have : segR a b v ≤ (b.2 : Rat) := by
          by_cases h3 : v = (b.1 : Rat)
          · rw [h3, seg_right hab]; exact Rat.le_refl
          · have := seg_mono hab hy1 (v := v) (w := (b.1 : Rat)) (by grind)
            rw [seg_right hab] at this
            grind
        grind
      · rw [if_neg h2]
        exact valC_mono (c := b :: d :: t) hu.2.2 hyt (by simp) hvw hw
  | [a], _, _, _, _, _, h, _, _ => by simp at h
  | [], _, _, _, _, _, h, _, _ => by simp at h
theorem ordR_of_lt {a b : Rat} (h : a < b) : ordR a b = -1 := by
  have := ordR_neg.2 h
  rcases ordR_one (a := a) (b := b) with h | h | h <;> omega
theorem ordR_of_gt {a b : Rat} (h : b < a) : ordR a b = 1 := by
  have := ordR_pos.2 h
  rcases ordR_one (a := a) (b := b) with h | h | h <;> omega
theorem ordR_self (a : Rat) : ordR a a = 0 := ordR_zero.2 rfl
theorem ord_three (v w : Rat) : v < w ∨ v = w ∨ w < v := by
  by_cases h : v < w
  · exact .inl h
  · by_cases h2 : w < v
    · exact .inr (.inr h2)
    · exact .inr (.inl (Rat.le_antisymm (Rat.not_lt.1 h2) (Rat.not_lt.1 h)))

theorem slope_order {c : List PT} (h : OkC c) {v w : Rat} (hv : v ≤ 65535) (hw : w ≤ 65535) (hs : slC c ≠ 0) : ordR (valC c v) (valC c w) = slC c * ordR v w := by
  have hl : ((lastX c : Int) : Rat) = 65535 := by rw [h.last]; rfl
  rcases slC_cases c with ⟨e, hy⟩ | ⟨e, hy⟩ | e
  · rw [e, Int.one_mul]
    rcases ord_three v w with h1 | h1 | h1
    · rw [ordR_of_lt h1, ordR_of_lt (valC_mono h.up hy h.two h1 (by rw [hl]; exact hw))]
    · rw [h1, ordR_self, ordR_self]
    · rw [ordR_of_gt h1, ordR_of_gt (valC_mono h.up hy h.two h1 (by rw [hl]; exact hv))]
  · have hf := flip_ok h
    have hfl : ((lastX (flipC c) : Int) : Rat) = 65535 := by rw [hf.last]; rfl
    have hm := fun {v w : Rat} (h1 : v < w) (h2 : w ≤ 65535) => valC_mono hf.up (flip_downY hy) hf.two h1 (by rw [hfl]; exact h2)
    simp only [flip_val h.up h.two] at hm
    rw [e]
    rcases ord_three v w with h1 | h1 | h1
    · rw [ordR_of_lt h1, ordR_of_gt (by have := hm h1 hw; grind)]; rfl
    · rw [h1, ordR_self, ordR_self]; rfl
    · rw [ordR_of_gt h1, ordR_of_lt (by have := hm h1 hv; grind)]; rfl
  · exact absurd e hs

def swapP (q : PT) : PT := (q.2, q.1)

def turnC (c : List PT) : List PT := if slC c < 0 then (c.map swapP).reverse else c.map swapP

def wholeC (c : List PT) : Prop := (firstY c = 0 ∧ lastY c = 65535) ∨ (firstY c = 65535 ∧ lastY c = 0)
instance (c : List PT) : Decidable (wholeC c) := by unfold wholeC; infer_instance
theorem swap_swap (c : List PT) : (c.map swapP).map swapP = c := by
  rw [List.map_map]
  conv => rhs; rw [← List.map_id c]
  apply List.map_congr_left
  intro q _
  rfl
theorem up_of_steps : ∀ {c : List PT} {p : Int}, (∀ i (h : i < c.length), isLev c[i].1 ∧ isLev c[i].2) → (∀ h : 0 < c.length, p < c[0].1) → (∀ i (h : i + 1 < c.length), (c[i]'(by omega)).1 < c[i + 1].1) → UpC p c
  | [], _, _, _, _ => trivial
  | q :: t, p, h1, h2, h3 => ⟨h1 0 (by simp), h2 (by simp), up_of_steps (fun i h => h1 (i + 1) (by simpa using h)) (fun h => h3 0 (by simpa using h)) (fun i h => h3 (i + 1) (by simpa using h))⟩
theorem firstX_get {c : List PT} (h : 0 < c.length) : firstX c = c[0].1 := by
  match c, h with
  | q :: t, _ => rfl
theorem firstY_get {c : List PT} (h : 0 < c.length) : firstY c = c[0].2 := by
  match c, h with
  | q :: t, _ => rfl
theorem last_get {c : List PT} (h : 0 < c.length) : c.getLastD (0, 0) = c[c.length - 1] := by
  rw [List.getLastD_eq_getLast?, List.getLast?_eq_getElem?, List.getElem?_eq_getElem (by omega)]
  rfl
theorem lastX_get {c : List PT} (h : 0 < c.length) : lastX c = c[c.length - 1].1 := by unfold lastX; rw [last_get h]
theorem lastY_get {c : List PT} (h : 0 < c.length) : lastY c = c[c.length - 1].2 := by unfold lastY; rw [last_get h]

theorem seg_back {a b : PT} {r : Rat} (h : a.1 < b.1) (hy : a.2 < b.2) : segR (swapP a) (swapP b) (segR a b r) = r := by
  have e := segR_eq (r := r) h
  refine seg_unique (a := swapP a) (b := swapP b) hy ?_
  show (r - (a.1 : Rat)) * ((b.2 : Rat) - (a.2 : Rat)) = ((b.1 : Rat) - (a.1 : Rat)) * (segR a b r - (a.2 : Rat))
  grind
theorem seg_back_down {a b : PT} {r : Rat} (h : a.1 < b.1) (hy : b.2 < a.2) : segR (swapP b) (swapP a) (segR a b r) = r := by
  have e := segR_eq (r := r) h
  refine seg_unique (a := swapP b) (b := swapP a) hy ?_
  show (r - (b.1 : Rat)) * ((a.2 : Rat) - (b.2 : Rat)) = ((a.1 : Rat) - (b.1 : Rat)) * (segR a b r - (b.2 : Rat))
  grind

theorem turn_all {c : List PT} (h : OkC c) (hs : slC c ≠ 0) (hw : wholeC c) :
    OkC (turnC c) ∧ slC (turnC c) = slC c ∧ wholeC (turnC c) ∧ turnC (turnC c) = c ∧ ∀ v : Rat, 0 ≤ v → v ≤ 65535 → valC (turnC c) (valC c v) = v := by
  have h2 := h.two
  have hlev := fun i (hi : i < c.length) => up_lev hi h.up
  have hst := fun i (hi : i + 1 < c.length) => up_step hi h.up
  have hf := h.first
  have hla := h.last
  unfold wholeC at hw
  rw [firstX_get (by omega)] at hf
  rw [lastX_get (by omega)] at hla
  rw [firstY_get (by omega), lastY_get (by omega)] at hw
  rcases slC_cases c with ⟨e, hy⟩ | ⟨e, hy⟩ | e
  · have ht : turnC c = c.map swapP := by unfold turnC; rw [e]; rfl
    have hys := fun i (hi : i + 1 < c.length) => upY_step hi hy
    have hlen : (c.map swapP).length = c.length := List.length_map _
    have hyl : ∀ i (hi : i < c.length), c[0].2 ≤ c[i].2 := by
      intro i
      induction i with
      | zero => intro _; exact Int.le_refl _
      | succ i ih => intro hi; have := ih (by omega); have := hys i hi; omega
    have hl1 := hyl (c.length - 1) (by omega)
    have hl2 := hys 0 (by omega)
    have hl3 := hyl (c.length - 1) (by omega)
    have hw' : c[0].2 = 0 ∧ c[c.length - 1].2 = 65535 := by
      rcases hw with hw | hw
      · exact hw
      · exfalso
        omega
    have hup : UpC (-1) (c.map swapP) := by
      refine up_of_steps ?_ ?_ ?_
      · intro i hi
        rw [List.getElem_map]
        have := hlev i (by rw [← hlen]; exact hi)
        exact ⟨this.2, this.1⟩
      · intro h0
        rw [List.getElem_map]
        show -1 < c[0].2
        omega
      · intro i hi
        rw [List.getElem_map, List.getElem_map]
        exact hys i (by rw [← hlen]; exact hi)
    have hok : OkC (c.map swapP) := by
      refine ⟨by omega, by rw [hlen]; exact h.few, hup, ?_, ?_⟩
      · rw [firstX_get (by omega), List.getElem_map]; exact hw'.1
      · rw [lastX_get (by omega), List.getElem_map]
        simp only [hlen]
        exact hw'.2
    have hyt : upY (c.map swapP) = true := by
      refine upY_of fun i hi => ?_
      rw [List.getElem_map, List.getElem_map]
      exact hst i (by rw [← hlen]; exact hi)
    rw [ht]
    refine ⟨hok, by rw [e, slC_up hyt], .inl ⟨?_, ?_⟩, ?_, ?_⟩
    · rw [firstY_get (by omega), List.getElem_map]; exact hf
    · rw [lastY_get (by omega), List.getElem_map]
      simp only [hlen]
      exact hla
    · unfold turnC
      rw [slC_up hyt, if_neg (by decide), swap_swap]
    · intro v v0 v1
      obtain ⟨i, hi, s1, s2, s3, s4⟩ := h.seg v0 v1
      have s5 := hys i hi
      obtain ⟨b1, b2⟩ := seg_between s4 s1 s2
      rw [Int.min_eq_left (by omega)] at b1
      rw [Int.max_eq_right (by omega)] at b2
      rw [s3]
      have hi' : i + 1 < (c.map swapP).length := by rw [hlen]; exact hi
      have := valC_seg (r := segR (c[i]'(by omega)) c[i + 1] v) hup hi' (by rw [List.getElem_map]; exact b1) (by rw [List.getElem_map]; exact b2)
      rw [this, List.getElem_map, List.getElem_map]
      exact seg_back s4 s5
  · have ht : turnC c = (c.map swapP).reverse := by unfold turnC; rw [e]; rfl
    have hys := fun i (hi : i + 1 < c.length) => downY_step hi hy
    have hlen : (c.map swapP).reverse.length = c.length := by rw [List.length_reverse, List.length_map]
    have hyl : ∀ i (hi : i < c.length), c[i].2 ≤ c[0].2 := by
      intro i
      induction i with
      | zero => intro _; exact Int.le_refl _
      | succ i ih => intro hi; have := ih (by omega); have := hys i hi; omega
    have hl1 := hyl (c.length - 1) (by omega)
    have hl2 := hys 0 (by omega)
    have hw' : c[0].2 = 65535 ∧ c[c.length - 1].2 = 0 := by
      rcases hw with hw | hw
      · exfalso
        omega
      · exact hw
    have hget : ∀ i (hi : i < (c.map swapP).reverse.length), (c.map swapP).reverse[i] = swapP (c[c.length - 1 - i]'(by rw [hlen] at hi; omega)) := by
      intro i hi
      rw [List.getElem_reverse, List.getElem_map]
      simp only [List.length_map]
    have hup : UpC (-1) (c.map swapP).reverse := by
      refine up_of_steps ?_ ?_ ?_
      · intro i hi
        rw [hget i hi]
        have := hlev (c.length - 1 - i) (by omega)
        exact ⟨this.2, this.1⟩
      · intro h0
        rw [hget 0 h0]
        show -1 < (c[c.length - 1 - 0]'_).2
        simp only [Nat.sub_zero]
        omega
      · intro i hi
        rw [hget i (by omega), hget (i + 1) hi]
        have hi2 : c.length - 1 - (i + 1) + 1 < c.length := by omega
        have := hys (c.length - 1 - (i + 1)) hi2
        show (c[c.length - 1 - i]'_).2 < (c[c.length - 1 - (i + 1)]'_).2
        have e2 : c.length - 1 - (i + 1) + 1 = c.length - 1 - i := by omega
        simp only [e2] at this
        exact this
    have hok : OkC (c.map swapP).reverse := by
      refine ⟨by omega, by rw [hlen]; exact h.few, hup, ?_, ?_⟩
      · rw [firstX_get (by omega), hget 0 (by omega)]
        show (c[c.length - 1 - 0]'_).2 = 0
        simp only [Nat.sub_zero]
        exact hw'.2
      · rw [lastX_get (by omega), hget _ (by omega)]
        show (c[c.length - 1 - ((c.map swapP).reverse.length - 1)]'_).2 = 65535
        have e2 : c.length - 1 - ((c.map swapP).reverse.length - 1) = 0 := by rw [hlen]; omega
        simp only [e2]
        exact hw'.1
    have hyt : downY (c.map swapP).reverse = true := by
      refine downY_of fun i hi => ?_
      rw [hget i (by omega), hget (i + 1) hi]
      have hi2 : c.length - 1 - (i + 1) + 1 < c.length := by omega
      have := hst (c.length - 1 - (i + 1)) hi2
      show (c[c.length - 1 - (i + 1)]'_).1 < (c[c.length - 1 - i]'_).1
      have e2 : c.length - 1 - (i + 1) + 1 = c.length - 1 - i := by omega
      simp only [e2] at this
      exact this
    rw [ht]
    refine ⟨hok, by rw [e, slC_down (by omega) hyt], .inr ⟨?_, ?_⟩, ?_, ?_⟩
    · rw [firstY_get (by omega), hget 0 (by omega)]
      show (c[c.length - 1 - 0]'_).1 = 65535
      simp only [Nat.sub_zero]
      exact hla
    · rw [lastY_get (by omega), hget _ (by omega)]
      show (c[c.length - 1 - ((c.map swapP).reverse.length - 1)]'_).1 = 0
      have e2 : c.length - 1 - ((c.map swapP).reverse.length - 1) = 0 := by rw [hlen]; omega
      simp only [e2]
      exact hf
    · unfold turnC
      rw [slC_down (by omega) hyt, if_pos (by decide), List.map_reverse, List.reverse_reverse, swap_swap]
    · intro v v0 v1
      obtain ⟨i, hi, s1, s2, s3, s4⟩ := h.seg v0 v1
      have s5 := hys i hi
      obtain ⟨b1, b2⟩ := seg_between s4 s1 s2
      rw [Int.min_eq_right (by omega)] at b1
      rw [Int.max_eq_left (by omega)] at b2
      rw [s3]
      have hj : c.length - 2 - i + 1 < (c.map swapP).reverse.length := by omega
      have g1 : (c.map swapP).reverse[c.length - 2 - i]'(by omega) = swapP c[i + 1] := by
        rw [hget _ (by omega)]
        have e2 : c.length - 1 - (c.length - 2 - i) = i + 1 := by omega
        simp only [e2]
      have g2 : (c.map swapP).reverse[c.length - 2 - i + 1] = swapP (c[i]'(by omega)) := by
        rw [hget _ hj]
        have e2 : c.length - 1 - (c.length - 2 - i + 1) = i := by omega
        simp only [e2]
      have := valC_seg (r := segR (c[i]'(by omega)) c[i + 1] v) hup hj (by rw [g1]; exact b1) (by rw [g2]; exact b2)
      rw [this, g1, g2]
      exact seg_back_down s4 s5
  · exact absurd e hs
end Go.Proofs.YtpinmgoeapakdaaGreatDoor

namespace Go.Proofs.YtpinmgoeapakdaaGreatDoor

def lineB (a p b : PT) : Bool := decide ((p.2 - a.2) * (b.1 - a.1) = (b.2 - a.2) * (p.1 - a.1))
def tidyGo : PT → List PT → List PT
  | a, p :: b :: t => if lineB a p b then tidyGo p (b :: t) else p :: tidyGo p (b :: t)
  | _, l => l

def tidyC : List PT → List PT
  | [] => []
  | a :: t => a :: tidyGo a t

def slp (a b : PT) : Rat := ((b.2 - a.2 : Int) : Rat) / ((b.1 - a.1 : Int) : Rat)
theorem slp_eq {a b : PT} (h : a.1 < b.1) : slp a b * ((b.1 : Rat) - (a.1 : Rat)) = (b.2 : Rat) - (a.2 : Rat) := by
  have hd : ((b.1 : Rat) - (a.1 : Rat)) ≠ 0 := by
    have := cast_lt.2 h
    grind
  unfold slp
  rw [Rat.intCast_sub, Rat.intCast_sub, Rat.div_def, Rat.mul_assoc, Rat.inv_mul_cancel _ hd, Rat.mul_one]
theorem slp_unique {a b : PT} {s : Rat} (h : a.1 < b.1) (hs : s * ((b.1 : Rat) - (a.1 : Rat)) = (b.2 : Rat) - (a.2 : Rat)) : slp a b = s := by
  have hd : ((b.1 : Rat) - (a.1 : Rat)) ≠ 0 := by
    have := cast_lt.2 h
    grind
  exact mul_cancel hd ((slp_eq h).trans hs.symm)
theorem slp_join {a p b : PT} (h1 : a.1 < p.1) (h2 : p.1 < b.1) (h : slp a p = slp p b) : slp a b = slp p b := by
  have e1 := slp_eq h1
  have e2 := slp_eq h2
  exact slp_unique (by omega) (by rw [h] at e1; grind)
theorem slp_part {a p b : PT} (h1 : a.1 < p.1) (h2 : p.1 < b.1) (h : slp a p = slp a b) : slp p b = slp a p := by
  have e1 := slp_eq h1
  have e2 := slp_eq (a := a) (b := b) (by omega)
  exact slp_unique h2 (by rw [← h] at e2; grind)
theorem slp_part' {a p b : PT} (h1 : a.1 < p.1) (h2 : p.1 < b.1) (h : slp p b = slp a b) : slp a p = slp p b := by
  have e1 := slp_eq h2
  have e2 := slp_eq (a := a) (b := b) (by omega)
  exact slp_unique h1 (by rw [← h] at e2; grind)
theorem line_iff {a p b : PT} (h1 : a.1 < p.1) (h2 : p.1 < b.1) : lineB a p b = true ↔ slp a p = slp p b := by
  have e1 := slp_eq h1
  have e2 := slp_eq (a := a) (b := b) (by omega)
  have hc : ((p.2 - a.2) * (b.1 - a.1) = (b.2 - a.2) * (p.1 - a.1)) ↔ ((p.2 : Rat) - (a.2 : Rat)) * ((b.1 : Rat) - (a.1 : Rat)) = ((b.2 : Rat) - (a.2 : Rat)) * ((p.1 : Rat) - (a.1 : Rat)) := by
    rw [← Rat.intCast_sub, ← Rat.intCast_sub, ← Rat.intCast_sub, ← Rat.intCast_sub, ← Rat.intCast_mul, ← Rat.intCast_mul, Rat.intCast_inj]
  unfold lineB
  rw [decide_eq_true_eq, hc]
  have d1 : ((p.1 : Rat) - (a.1 : Rat)) ≠ 0 := by
    have := cast_lt.2 h1
    grind
  have d2 : ((b.1 : Rat) - (a.1 : Rat)) ≠ 0 := by
    have := cast_lt.2 (Int.lt_trans h1 h2)
    grind
  constructor
  · intro h
    have : slp a p = slp a b := by
      refine mul_cancel d2 (mul_cancel d1 ?_)
      grind
    rw [slp_part h1 h2 this]
  · intro h
    have := slp_join h1 h2 h
    rw [← e1, ← e2, this, h]
    grind
theorem seg_slp {a b : PT} {r : Rat} (h : a.1 < b.1) : segR a b r = (a.2 : Rat) + slp a b * (r - (a.1 : Rat)) := by
  have e := slp_eq h
  exact seg_unique h (by grind)

theorem drop_one {a p b : PT} {t : List PT} {r : Rat} (h1 : a.1 < p.1) (h2 : p.1 < b.1) (h : slp a p = slp p b) : valC (a :: b :: t) r = valC (a :: p :: b :: t) r := by
  have hj := slp_join h1 h2 h
  rw [valC_two, valC_two a p, valC_two p b]
  have hp := cast_lt.2 h2
  have e := slp_eq h1
  by_cases c1 : r ≤ (p.1 : Rat)
  · rw [if_pos c1, if_pos (by grind), seg_slp (Int.lt_trans h1 h2), seg_slp h1, hj, h]
  · rw [if_neg c1]
    by_cases c2 : r ≤ (b.1 : Rat)
    · rw [if_pos c2, if_pos c2, seg_slp (Int.lt_trans h1 h2), seg_slp h2, hj]
      rw [h] at e
      grind
    · rw [if_neg c2, if_neg c2]

def Asc : List PT → Prop
  | a :: b :: t => a.1 < b.1 ∧ Asc (b :: t)
  | _ => True
theorem up_asc : ∀ {c : List PT} {p : Int}, UpC p c → Asc c
  | _ :: b :: t, _, h => ⟨h.2.2.2.1, up_asc (c := b :: t) h.2.2⟩
  | [_], _, _ => trivial
  | [], _, _ => trivial
theorem tidy_val : ∀ (l : List PT) (a : PT), l ≠ [] → Asc (a :: l) → (∀ r : Rat, valC (a :: tidyGo a l) r = valC (a :: l) r) ∧
    ∀ a0 : PT, a0.1 < a.1 → slp a0 a = slp a (l.headD a) → ∀ r : Rat, valC (a0 :: tidyGo a l) r = valC (a0 :: a :: l) r
  | [], _, h, _ => absurd rfl h
  | [_], _, _, ha => by
    refine ⟨fun r => rfl, fun a0 h0 hs r => ?_⟩
    exact drop_one h0 ha.1 hs
  | p :: b :: t, a, _, ha => by
    obtain ⟨i1, i2⟩ := tidy_val (b :: t) p (by simp) ha.2
    have hap : a.1 < p.1 := ha.1
    have hpb : p.1 < b.1 := ha.2.1
    cases hl : lineB a p b
    · have hne : ¬ slp a p = slp p b := fun e => by rw [(line_iff hap hpb).2 e] at hl; cases hl
      have hg : tidyGo a (p :: b :: t) = p :: tidyGo p (b :: t) := by rw [tidyGo, hl]; rfl
      rw [hg]
      have hrest : ∀ (x : PT) (r : Rat), valC (x :: p :: tidyGo p (b :: t)) r = valC (x :: p :: b :: t) r := by
        intro x r
        rw [valC_two, valC_two, i1]
      refine ⟨fun r => hrest a r, fun a0 h0 hs r => ?_⟩
      rw [hrest]
      exact drop_one h0 hap hs
    · have he := (line_iff hap hpb).1 hl
      have hg : tidyGo a (p :: b :: t) = tidyGo p (b :: t) := by rw [tidyGo, hl]; rfl
      rw [hg]
      refine ⟨fun r => i2 a hap he r, fun a0 h0 hs r => ?_⟩
      have hs' : slp a0 a = slp a p := hs
      have hj : slp a0 p = slp a p := slp_join h0 hap hs'
      rw [i2 a0 (Int.lt_trans h0 hap) (hj.trans he) r]
      exact drop_one h0 hap hs'

theorem tidy_head : ∀ (l : List PT) (a : PT), l ≠ [] → Asc (a :: l) → ∃ h m, tidyGo a l = h :: m ∧ Asc (a :: h :: m) ∧ slp a h = slp a (l.headD a)
  | [], _, h, _ => absurd rfl h
  | [p], a, _, ha => ⟨p, [], rfl, ha, rfl⟩
  | p :: b :: t, a, _, ha => by
    obtain ⟨h, m, e, h1, h2⟩ := tidy_head (b :: t) p (by simp) ha.2
    have hap : a.1 < p.1 := ha.1
    have hpb : p.1 < b.1 := ha.2.1
    cases hl : lineB a p b
    · have hg : tidyGo a (p :: b :: t) = p :: tidyGo p (b :: t) := by rw [tidyGo, hl]; rfl
      exact ⟨p, h :: m, by rw [hg, e], ⟨hap, h1⟩, rfl⟩
    · have he := (line_iff hap hpb).1 hl
      have hg : tidyGo a (p :: b :: t) = tidyGo p (b :: t) := by rw [tidyGo, hl]; rfl
      have h2' : slp p h = slp p b := h2
      refine ⟨h, m, by rw [hg, e], ⟨Int.lt_trans hap h1.1, h1.2⟩, ?_⟩
      show slp a h = slp a p
      rw [slp_join hap h1.1 (he.trans h2'.symm), h2', he]
theorem tidy_twice : ∀ (l : List PT) (a : PT), l ≠ [] → Asc (a :: l) → tidyGo a (tidyGo a l) = tidyGo a l ∧
    ∀ a0 : PT, a0.1 < a.1 → slp a0 a = slp a (l.headD a) → tidyGo a0 (tidyGo a l) = tidyGo a l
  | [], _, h, _ => absurd rfl h
  | [p], a, _, _ => ⟨rfl, fun _ _ _ => rfl⟩
  | p :: b :: t, a, _, ha => by
    obtain ⟨i1, i2⟩ := tidy_twice (b :: t) p (by simp) ha.2
    obtain ⟨h, m, e, h1, h2⟩ := tidy_head (b :: t) p (by simp) ha.2
    have h2' : slp p h = slp p b := h2
    have hap : a.1 < p.1 := ha.1
    have hpb : p.1 < b.1 := ha.2.1
    have hph : p.1 < h.1 := h1.1
    cases hl : lineB a p b
    · have hne : ¬ slp a p = slp p b := fun e => by rw [(line_iff hap hpb).2 e] at hl; cases hl
      have hg : tidyGo a (p :: b :: t) = p :: tidyGo p (b :: t) := by rw [tidyGo, hl]; rfl
      have hstep : ∀ x : PT, x.1 < p.1 → slp x p = slp a p → tidyGo x (p :: tidyGo p (b :: t)) = p :: tidyGo p (b :: t) := by
        intro x hx hxs
        rw [e, tidyGo]
        have hn : lineB x p h = false := by
          cases hl2 : lineB x p h
          · rfl
          · exfalso
            have := (line_iff hx hph).1 hl2
            exact hne (by rw [← hxs, this, h2'])
        rw [hn]
        show p :: tidyGo p (h :: m) = p :: h :: m
        rw [← e, i1]
      rw [hg]
      refine ⟨hstep a hap rfl, fun a0 h0 hs => ?_⟩
      have hs' : slp a0 a = slp a p := hs
      exact hstep a0 (Int.lt_trans h0 hap) (slp_join h0 hap hs')
    · have he := (line_iff hap hpb).1 hl
      have hg : tidyGo a (p :: b :: t) = tidyGo p (b :: t) := by rw [tidyGo, hl]; rfl
      rw [hg]
      refine ⟨i2 a hap he, fun a0 h0 hs => ?_⟩
      have hs' : slp a0 a = slp a p := hs
      exact i2 a0 (Int.lt_trans h0 hap) ((slp_join h0 hap hs').trans he)
theorem tidy_len : ∀ (l : List PT) (a : PT), (tidyGo a l).length ≤ l.length
  | p :: b :: t, a => by
    have := tidy_len (b :: t) p
    rw [tidyGo]
    split
    · simp at this ⊢; omega
    · simp at this ⊢; omega
  | [_], _ => Nat.le_refl _
  | [], _ => Nat.le_refl _
theorem tidy_last : ∀ (l : List PT) (a : PT), (tidyGo a l).getLastD a = l.getLastD a
  | p :: b :: t, a => by
    have := tidy_last (b :: t) p
    have h0 : (b :: t).getLastD p = (p :: b :: t).getLastD a := rfl
    rw [tidyGo]
    split
    · rw [← h0, ← this]
      cases hg : tidyGo p (b :: t) with
      | nil =>
        exfalso
        have : ∀ (l : List PT) (a : PT), l ≠ [] → tidyGo a l ≠ [] := by
          intro l
          induction l with
          | nil => intro a h; exact absurd rfl h
          | cons q l ih =>
            intro a _
            match l, ih with
            | [], _ => intro h; cases h
            | d :: l, ih =>
              rw [tidyGo]
              split
              · exact ih q (by simp)
              · intro h; cases h
        exact this (b :: t) p (by simp) hg
      | cons d m => rfl
    · rw [← h0, ← this, List.getLastD_cons]
  | [_], _ => rfl
  | [], _ => rfl
theorem tidy_up : ∀ (l : List PT) (a : PT) (q : Int), q ≤ a.1 → UpC a.1 l → UpC q (tidyGo a l)
  | p :: b :: t, a, q, hq, h => by
    have hap : a.1 < p.1 := h.2.1
    rw [tidyGo]
    split
    · exact tidy_up (b :: t) p q (by omega) h.2.2
    · exact ⟨h.1, by omega, tidy_up (b :: t) p p.1 (Int.le_refl _) h.2.2⟩
  | [p], a, q, hq, h => ⟨h.1, by have := h.2.1; omega, trivial⟩
  | [], _, _, _, _ => trivial

theorem tidy_all {c : List PT} (h : OkC c) : OkC (tidyC c) ∧ tidyC (tidyC c) = tidyC c ∧ (tidyC c).length ≤ c.length ∧ ∀ r : Rat, valC (tidyC c) r = valC c r := by
  match c, h with
  | [], h => have := h.two; simp at this
  | [_], h => have := h.two; simp at this
  | a :: p :: t, h =>
    have ha := up_asc h.up
    obtain ⟨v1, _⟩ := tidy_val (p :: t) a (by simp) ha
    obtain ⟨w1, _⟩ := tidy_twice (p :: t) a (by simp) ha
    have hl := tidy_len (p :: t) a
    obtain ⟨x, m, e, _, _⟩ := tidy_head (p :: t) a (by simp) ha
    have hlast := tidy_last (p :: t) a
    refine ⟨⟨?_, ?_, ⟨h.up.1, h.up.2.1, tidy_up _ a a.1 (Int.le_refl _) h.up.2.2⟩, h.first, ?_⟩, ?_, ?_, v1⟩
    · show 2 ≤ (a :: tidyGo a (p :: t)).length
      rw [e]; simp
    · have := h.few
      show (a :: tidyGo a (p :: t)).length ≤ 16
      simp at hl this ⊢
      omega
    · have h5 := h.last
      show ((a :: tidyGo a (p :: t)).getLastD (0, 0)).1 = 65535
      rw [← h5, List.getLastD_cons, hlast]
      unfold lastX
      rw [List.getLastD_cons, List.getLastD_cons, List.getLastD_cons]
    · show a :: tidyGo a (tidyGo a (p :: t)) = a :: tidyGo a (p :: t)
      rw [w1]
    · show (a :: tidyGo a (p :: t)).length ≤ _
      simp at hl ⊢
      exact hl
end Go.Proofs.YtpinmgoeapakdaaGreatDoor
