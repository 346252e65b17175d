/- Plain law: the normal text of a set is read back as this set. No program in sight. -/
import Derived.Test.YteaofninjbhiaaaDoorPlainF
namespace Go.Proofs.YteaofninjbhiaaaDoor

theorem isD_dig (x : Nat) (h : x < 10) : isD (UInt8.ofNat (48 + x)) = true ∧ (UInt8.ofNat (48 + x)).toNat = 48 + x := by
  have e : (UInt8.ofNat (48 + x)).toNat = 48 + x := by simp [UInt8.toNat_ofNat]; omega
  refine ⟨?_, e⟩
  unfold isD; rw [decide_eq_true_eq, e]; omega
def NoD : BS → Prop
  | [] => True
  | c :: _ => isD c = false
theorem dgo_stop (n k : Nat) (t : BS) (h : NoD t) : dgo n k t = (n, k) := by
  cases t with
  | nil => rfl
  | cons c t => simp only [dgo]; rw [if_neg]; rw [show isD c = false from h]; decide
theorem dgo_dig (n k x : Nat) (t : BS) (h : x < 10) : dgo n k (UInt8.ofNat (48 + x) :: t) = dgo (min (10 * n + x) 1000) (k + 1) t := by
  obtain ⟨h1, h2⟩ := isD_dig x h
  simp only [dgo]; rw [if_pos h1, h2, show 48 + x - 48 = x from by omega]
theorem dgo_d3 (n k : Nat) (t : BS) (h1 : n ≤ 999) (ht : NoD t) : dgo 0 k (d3 n ++ t) = (n, k + (d3 n).length) := by
  unfold d3
  split
  · simp only [List.cons_append, List.nil_append]; rw [dgo_dig _ _ _ _ (by omega), dgo_stop _ _ _ ht]; simp; omega
  · split
    · simp only [List.cons_append, List.nil_append]; rw [dgo_dig _ _ _ _ (by omega), dgo_dig _ _ _ _ (by omega), dgo_stop _ _ _ ht]; simp; omega
    · simp only [List.cons_append, List.nil_append]; rw [dgo_dig _ _ _ _ (by omega), dgo_dig _ _ _ _ (by omega), dgo_dig _ _ _ _ (by omega), dgo_stop _ _ _ ht]; simp; omega
theorem d3_head (n : Nat) (h : n ≤ 999) : ∃ c t, d3 n = c :: t ∧ isD c = true := by
  unfold d3
  split
  · exact ⟨_, _, rfl, (isD_dig _ (by omega)).1⟩
  · split
    · exact ⟨_, _, rfl, (isD_dig _ (by omega)).1⟩
    · exact ⟨_, _, rfl, (isD_dig _ (by omega)).1⟩
theorem d3_pos (n : Nat) (h : n ≤ 999) : 0 < (d3 n).length := by
  obtain ⟨c, t, e, _⟩ := d3_head n h; rw [e]; simp
theorem isD_ne {c : UInt8} (h : isD c = true) : ¬ c = 32 := by
  rintro rfl; revert h; decide
def NoB : BS → Prop
  | [] => True
  | c :: _ => ¬ c = 32
theorem nb_no {t : BS} (h : NoB t) : nb t = 0 := by
  cases t with
  | nil => rfl
  | cons c t => simp only [nb]; rw [if_neg h]
theorem nb_yes {t : BS} (h : NoB t) : nb (32 :: t) = 1 := by simp [nb, nb_no h]
theorem noB_d3 (n : Nat) (h : n ≤ 999) (t : BS) : NoB (d3 n ++ t) := by
  obtain ⟨c, u, e, hd⟩ := d3_head n h
  rw [e]; exact isD_ne hd

/-- what stands behind a range in a normal text -/
def tailT : RL → BS
  | [] => []
  | r :: t => 32 :: 43 :: 32 :: (item r ++ tailT t)
theorem joinTail_tailT (t : RL) : Lib.joinTail sepP (t.map item) = tailT t := by
  induction t with
  | nil => rfl
  | cons r t ih =>
    have : Lib.joinTail sepP ((r :: t).map item) = sepP ++ item r ++ Lib.joinTail sepP (t.map item) := by simp [Lib.joinTail]
    rw [this, ih]; simp [tailT, sepP]
theorem fmtL_cons (r : Int × Int) (t : RL) : fmtL (r :: t) = item r ++ tailT t := by
  unfold fmtL; rw [List.map_cons, Lib.join_cons, joinTail_tailT]
theorem noD_tail (t : RL) : NoD (tailT t) := by cases t <;> simp [tailT, NoD]; decide
/-- behind the blank of a tail -/
def tail1 : RL → BS
  | [] => []
  | r :: t => 43 :: 32 :: (item r ++ tailT t)
theorem noB_tail1 (t : RL) : NoB (tail1 t) := by cases t <;> simp [tail1, NoB]
theorem nb_tail (t : RL) : nb (tailT t) = (if t = [] then 0 else 1) ∧ (tailT t).drop (nb (tailT t)) = tail1 t := by
  cases t with
  | nil => exact ⟨rfl, rfl⟩
  | cons r t =>
    have : nb (tailT (r :: t)) = 1 := nb_yes (by simp [NoB])
    rw [this]; exact ⟨by simp, rfl⟩
theorem right_nat {a b : Int} (h : 1 ≤ a ∧ a ≤ b ∧ b ≤ 999) : ∃ x y : Nat, a = x ∧ b = y ∧ 1 ≤ x ∧ x ≤ y ∧ y ≤ 999 := ⟨a.toNat, b.toNat, by omega, by omega, by omega, by omega, by omega⟩

theorem drop_app (P T : BS) (k : Nat) (h : k = P.length) : (P ++ T).drop k = T := by subst h; simp
theorem chan_d3 (P T : BS) (n k : Nat) (hk : k = P.length) (h1 : 1 ≤ n) (h2 : n ≤ 999) (ht : NoD T) : chan (P ++ (d3 n ++ T)) k = (n, k + (d3 n).length + nb T, 0) := by
  have hp := d3_pos n h2
  unfold chan
  rw [drop_app P _ k hk, dgo_d3 n k T h2 ht]
  dsimp only
  rw [if_neg (by omega), if_pos (by rw [rightB_iff]; omega)]
  unfold skipAt
  rw [show (P ++ (d3 n ++ T)).drop (k + (d3 n).length) = T from by rw [← List.append_assoc]; exact drop_app _ _ _ (by simp [hk])]
theorem thru_no (P : BS) (t : RL) (k : Nat) (hk : k = P.length) : thruAt (P ++ tail1 t) k = none := by
  unfold thruAt
  rw [drop_app P _ k hk]
  cases t with
  | nil => rfl
  | cons r t => rfl
theorem thru_yes (P T : BS) (k : Nat) (hk : k = P.length) (hT : NoB T) : thruAt (P ++ (116 :: 104 :: 114 :: 117 :: 32 :: T)) k = some (k + 5) := by
  unfold thruAt
  rw [drop_app P _ k hk]
  show (if isD 32 || isL 32 then none else some (skipAt _ (k + 4))) = _
  rw [if_neg (by decide)]
  unfold skipAt
  rw [show (P ++ (116 :: 104 :: 114 :: 117 :: 32 :: T)).drop (k + 4) = 32 :: T from by
    rw [show (P ++ (116 :: 104 :: 114 :: 117 :: 32 :: T)) = (P ++ [116, 104, 114, 117]) ++ (32 :: T) from by simp]
    exact drop_app _ _ _ (by simp [hk]), nb_yes hT]

theorem term_item (P : BS) (r : Int × Int) (t : RL) (k : Nat) (hk : k = P.length) (hr : 1 ≤ r.1 ∧ r.1 ≤ r.2 ∧ r.2 ≤ 999) :
    term (P ++ (item r ++ tailT t)) k = (r, k + (item r).length + nb (tailT t), 0) := by
  obtain ⟨a, b⟩ := r
  obtain ⟨x, y, hx, hy, h1, h2, h3⟩ := right_nat hr
  simp only at hx hy
  subst hx; subst hy
  unfold item
  dsimp only
  by_cases h : (x : Int) < (y : Int)
  · rw [if_pos h]
    have hc : chan (P ++ (d3 x ++ (32 :: 116 :: 104 :: 114 :: 117 :: 32 :: (d3 y ++ tailT t)))) k = (x, k + (d3 x).length + 1, 0) := by
      rw [chan_d3 P _ x k hk h1 (by omega) (show NoD (32 :: _) from (by decide : isD 32 = false)), nb_yes (show NoB (116 :: _) from (by decide : ¬ (116 : UInt8) = 32))]
    have ht : thruAt (P ++ (d3 x ++ (32 :: 116 :: 104 :: 114 :: 117 :: 32 :: (d3 y ++ tailT t)))) (k + (d3 x).length + 1) = some (k + (d3 x).length + 1 + 5) := by
      rw [show P ++ (d3 x ++ (32 :: 116 :: 104 :: 114 :: 117 :: 32 :: (d3 y ++ tailT t))) = (P ++ (d3 x ++ [32])) ++ (116 :: 104 :: 114 :: 117 :: 32 :: (d3 y ++ tailT t)) from by simp]
      exact thru_yes _ _ _ (by simp [hk]; omega) (noB_d3 y h3 _)
    have hb : chan (P ++ (d3 x ++ (32 :: 116 :: 104 :: 114 :: 117 :: 32 :: (d3 y ++ tailT t)))) (k + (d3 x).length + 1 + 5) = (y, k + (d3 x).length + 1 + 5 + (d3 y).length + nb (tailT t), 0) := by
      rw [show P ++ (d3 x ++ (32 :: 116 :: 104 :: 114 :: 117 :: 32 :: (d3 y ++ tailT t))) = (P ++ (d3 x ++ [32, 116, 104, 114, 117, 32])) ++ (d3 y ++ tailT t) from by simp]
      exact chan_d3 _ _ _ _ (by simp [hk]; omega) (by omega) h3 (noD_tail t)
    have e : P ++ ((d3 (x : Int).toNat ++ ([32, 116, 104, 114, 117, 32] ++ d3 (y : Int).toNat)) ++ tailT t) = P ++ (d3 x ++ (32 :: 116 :: 104 :: 114 :: 117 :: 32 :: (d3 y ++ tailT t))) := by simp
    rw [e]
    unfold term
    rw [hc]
    dsimp only
    rw [if_pos rfl, ht]
    dsimp only
    rw [hb]
    dsimp only
    rw [Nat.min_eq_left (by omega), Nat.max_eq_right (by omega)]
    simp
    omega
  · rw [if_neg h]
    obtain rfl : x = y := by omega
    have hc : chan (P ++ (d3 x ++ tailT t)) k = (x, k + (d3 x).length + nb (tailT t), 0) := chan_d3 P _ x k hk h1 (by omega) (noD_tail t)
    have ht : thruAt (P ++ (d3 x ++ tailT t)) (k + (d3 x).length + nb (tailT t)) = none := by
      have e : tailT t = (tailT t).take (nb (tailT t)) ++ tail1 t := by rw [← (nb_tail t).2, List.take_append_drop]
      have hl : ((tailT t).take (nb (tailT t))).length = nb (tailT t) := by rw [List.length_take]; have := nb_le (tailT t); omega
      generalize nb (tailT t) = z at *
      generalize (tailT t).take z = u at *
      rw [e, show P ++ (d3 x ++ (u ++ tail1 t)) = (P ++ (d3 x ++ u)) ++ tail1 t from by simp]
      exact thru_no _ _ _ (by simp [hk, hl]; omega)
    rw [Int.toNat_natCast]
    unfold term
    rw [hc]
    dsimp only
    rw [if_pos rfl, ht]

theorem noB_item (r : Int × Int) (hr : 1 ≤ r.1 ∧ r.1 ≤ r.2 ∧ r.2 ≤ 999) (T : BS) : NoB (item r ++ T) := by
  unfold item
  split
  · rw [List.append_assoc]; exact noB_d3 _ (by omega) _
  · exact noB_d3 _ (by omega) _

theorem parse_tail : ∀ (t : RL) (r : Int × Int) (P : BS) (m : Nat → Bool) (f : Nat), (∀ x ∈ r :: t, 1 ≤ x.1 ∧ x.1 ≤ x.2 ∧ x.2 ≤ 999) → t.length < f →
    parseGo (P ++ (item r ++ tailT t)) f true P.length m = (rangesOf (fun c => inB (r :: t) c || m c), 0, 0)
  | t, r, P, m, 0, _, hf => by omega
  | [], r, P, m, f + 1, hr, _ => by
    have h := term_item P r [] P.length rfl (hr r (by simp))
    unfold parseGo
    rw [h]
    dsimp only
    rw [if_pos rfl, if_pos (by simp [tailT, nb])]
    congr 1
    refine rangesOf_congr fun c _ => ?_
    cases inB [r] c <;> rfl
  | r' :: t, r, P, m, f + 1, hr, hf => by
    have h := term_item P r (r' :: t) P.length rfl (hr r (by simp))
    have hz : nb (tailT (r' :: t)) = 1 := by rw [(nb_tail _).1]; simp
    rw [hz] at h
    have e : P ++ (item r ++ tailT (r' :: t)) = (P ++ (item r ++ [32])) ++ (43 :: 32 :: (item r' ++ tailT t)) := by simp [tailT]
    have hl : (P ++ (item r ++ [32])).length = P.length + (item r).length + 1 := by simp; omega
    have h43 : (P ++ (item r ++ tailT (r' :: t)))[P.length + (item r).length + 1]? = some 43 := by
      rw [e, List.getElem?_append_right (by omega), hl]; simp
    have hs : skipAt (P ++ (item r ++ tailT (r' :: t))) (P.length + (item r).length + 1 + 1) = (P ++ (item r ++ [32, 43, 32])).length := by
      unfold skipAt
      rw [show P ++ (item r ++ tailT (r' :: t)) = (P ++ (item r ++ [32, 43])) ++ (32 :: (item r' ++ tailT t)) from by simp [tailT], drop_app _ _ _ (by simp; omega), nb_yes (noB_item r' (hr r' (by simp)) _)]
      simp; omega
    have e2 : P ++ (item r ++ tailT (r' :: t)) = (P ++ (item r ++ [32, 43, 32])) ++ (item r' ++ tailT t) := by simp [tailT]
    have ih := parse_tail t r' (P ++ (item r ++ [32, 43, 32])) (fun c => if inB [r] c then true else m c) f (fun x hx => hr x (by simp at hx ⊢; exact .inr hx)) (by simp at hf; omega)
    unfold parseGo
    rw [h]
    dsimp only
    rw [if_pos rfl, if_neg (by simp [tailT]; omega), if_pos (.inl h43), h43, hs]
    rw [e2, show (some (43 : UInt8) == some 43) = true from rfl, ih]
    congr 1
    refine rangesOf_congr fun c _ => ?_
    have : inB (r :: r' :: t) c = (inB [r] c || inB (r' :: t) c) := by simp [inB]
    rw [this]
    cases inB [r] c <;> cases inB (r' :: t) c <;> simp

theorem parse_fmt {l : RL} (h : chk l = 0) (hl : l.length ≤ 60) : parseL (fmtL l) = (l, 0, 0) := by
  unfold parseL
  have hlen := fmt_length l
  rw [if_neg (by omega)]
  cases l with
  | nil => rfl
  | cons r t =>
    have hr := chk_ok h
    have hs : skipAt (fmtL (r :: t)) 0 = 0 := by
      unfold skipAt; rw [List.drop_zero, fmtL_cons, nb_no (noB_item r (hr r (by simp)) _)]
    have hp : 0 < (item r).length := by
      have := hr r (by simp)
      have := d3_pos r.1.toNat (by omega)
      unfold item; split <;> simp <;> omega
    have hle : t.length ≤ (tailT t).length := by
      clear h hl hlen hr hs hp
      induction t with
      | nil => simp
      | cons x t ih => simp [tailT]; omega
    rw [hs, if_neg (by rw [fmtL_cons, List.length_append]; omega)]
    have := parse_tail t r [] (fun _ => false) ((fmtL (r :: t)).length + 1) hr (by rw [fmtL_cons]; simp; omega)
    rw [fmtL_cons] at this ⊢
    simp only [List.nil_append, List.length_nil] at this
    rw [this, rangesOf_self h (fun c => by simp)]
theorem formatL_ok {l : RL} (h : chk l = 0) : formatL l = (fmtL l, 0) := if_pos h
theorem formatL_bad {l : RL} (h : ¬ chk l = 0) : formatL l = ([], chk l) := if_neg h
end Go.Proofs.YteaofninjbhiaaaDoor
