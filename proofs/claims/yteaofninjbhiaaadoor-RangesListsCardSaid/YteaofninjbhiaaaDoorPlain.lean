/- Plain functions and laws on sets of channels: no program in sight. -/
namespace Go.Proofs.YteaofninjbhiaaaDoor

abbrev RL := List (Int × Int)

def rightB (a b : Int) : Bool := decide (1 ≤ a ∧ a ≤ b ∧ b ≤ 999)
theorem rightB_iff {a b : Int} : rightB a b = true ↔ 1 ≤ a ∧ a ≤ b ∧ b ≤ 999 := by simp [rightB]
theorem rightB_not {a b : Int} : rightB a b = false ↔ ¬ (1 ≤ a ∧ a ≤ b ∧ b ≤ 999) := by simp [rightB]

/-- the error of a list of ranges, behind a range that ends at p -/
def chkFrom (p : Int) : RL → Int
  | [] => 0
  | r :: t => if rightB r.1 r.2 then (if r.1 < p + 2 then 9 else chkFrom r.2 t) else 2
/-- the error of a list of ranges -/
def chk (l : RL) : Int := chkFrom (-1) l
/-- the end of the range before place k -/
def endB (l : RL) (k : Nat) : Int := match k with
  | 0 => -1
  | k + 1 => (l[k]?.getD (0, 0)).2
theorem chk_step (l : RL) (k : Nat) (hk : k < l.length) :
    chkFrom (endB l k) (l.drop k) = if rightB l[k].1 l[k].2 then (if l[k].1 < endB l k + 2 then 9 else chkFrom (endB l (k + 1)) (l.drop (k + 1))) else 2 := by
  rw [List.drop_eq_getElem_cons hk]
  simp only [chkFrom]
  have : endB l (k + 1) = l[k].2 := by simp [endB, hk]
  rw [this]
theorem chk_end (l : RL) : chkFrom (endB l l.length) (l.drop l.length) = 0 := by simp [chkFrom]
theorem chk_start (l : RL) : chkFrom (endB l 0) (l.drop 0) = chk l := rfl
theorem chkFrom_cases (l : RL) : ∀ p, chkFrom p l = 0 ∨ chkFrom p l = 2 ∨ chkFrom p l = 9 := by
  induction l with
  | nil => intro p; simp [chkFrom]
  | cons r t ih =>
    intro p
    simp only [chkFrom]
    split
    · split
      · simp
      · exact ih _
    · simp
theorem chk_cases (l : RL) : chk l = 0 ∨ chk l = 2 ∨ chk l = 9 := chkFrom_cases l _
/-- in a set each range is right, and begins at least 2 behind the one before -/
theorem chkFrom_ok {l : RL} : ∀ {p}, chkFrom p l = 0 → ∀ r ∈ l, 1 ≤ r.1 ∧ r.1 ≤ r.2 ∧ r.2 ≤ 999 ∧ p + 2 ≤ r.1 := by
  induction l with
  | nil => intro p _ r hr; cases hr
  | cons x t ih =>
    intro p h r hr
    simp only [chkFrom] at h
    split at h
    · rename_i hx
      rw [rightB_iff] at hx
      split at h
      · omega
      · rcases List.mem_cons.1 hr with rfl | hr
        · omega
        · have := ih h r hr; omega
    · omega
theorem chk_ok {l : RL} (h : chk l = 0) : ∀ r ∈ l, 1 ≤ r.1 ∧ r.1 ≤ r.2 ∧ r.2 ≤ 999 := fun r hr => by have := chkFrom_ok h r hr; omega

/-- the ints from a to b -/
def span (a b : Int) : List Int := (List.range (b + 1 - a).toNat).map fun i : Nat => a + (i : Int)
theorem mem_span {a b c : Int} : c ∈ span a b ↔ a ≤ c ∧ c ≤ b := by
  simp only [span, List.mem_map, List.mem_range]
  constructor
  · rintro ⟨i, hi, rfl⟩; omega
  · rintro ⟨h1, h2⟩; exact ⟨(c - a).toNat, by omega, by omega⟩
/-- the channels of ranges -/
def listed (l : RL) : List Int := l.flatMap fun r => span r.1 r.2
theorem mem_listed {l : RL} {c : Int} : c ∈ listed l ↔ ∃ r ∈ l, r.1 ≤ c ∧ c ≤ r.2 := by
  simp [listed, List.mem_flatMap, mem_span]
/-- is a channel in ranges? -/
def inB (l : RL) (c : Int) : Bool := l.any fun r => decide (r.1 ≤ c ∧ c ≤ r.2)
theorem inB_iff {l : RL} {c : Int} : inB l c = true ↔ ∃ r ∈ l, r.1 ≤ c ∧ c ≤ r.2 := by simp [inB]
theorem inB_listed {l : RL} {c : Int} : inB l c = true ↔ c ∈ listed l := by rw [inB_iff, mem_listed]

/-- a range whose end is turned -/
def toLast (l : RL) (c : Int) : RL := match l.getLast? with
  | none => l
  | some r => l.dropLast ++ [(r.1, c)]
/-- the list of a set of channels, up to n -/
def rgo (m : Nat → Bool) : Nat → RL
  | 0 => []
  | n + 1 => if m (n + 1) then (if m n then toLast (rgo m n) ((n : Int) + 1) else rgo m n ++ [((n : Int) + 1, (n : Int) + 1)]) else rgo m n
def rangesOf (m : Nat → Bool) : RL := rgo m 999
theorem toLast_snoc (l : RL) (r : Int × Int) (c : Int) : toLast (l ++ [r]) c = l ++ [(r.1, c)] := by simp [toLast]
theorem rgo_congr {m m' : Nat → Bool} : ∀ {n}, (∀ c, c ≤ n → m c = m' c) → rgo m n = rgo m' n
  | 0, _ => rfl
  | n + 1, h => by simp only [rgo]; rw [h (n + 1) (by omega), h n (by omega), rgo_congr fun c hc => h c (by omega)]
theorem rangesOf_congr {m m' : Nat → Bool} (h : ∀ c, c ≤ 999 → m c = m' c) : rangesOf m = rangesOf m' := rgo_congr h
theorem rgo_length (m : Nat → Bool) : ∀ n, (rgo m n).length ≤ n
  | 0 => by simp [rgo]
  | n + 1 => by
    have ih := rgo_length m n
    simp only [rgo]
    split
    · split
      · unfold toLast
        split
        · omega
        · simp; omega
      · simp; omega
    · omega
/-- what the list up to n is: its last range ends at n just if n is in the set; it is a set, with the members up to n -/
theorem rgo_last {m : Nat → Bool} (h0 : m 0 = false) : ∀ n, m n = true → ∃ l a, rgo m n = l ++ [(a, (n : Int))]
  | 0, h => by rw [h0] at h; cases h
  | n + 1, h => by
    simp only [rgo, h, if_true]
    cases hn : m n with
    | true =>
      obtain ⟨l, a, e⟩ := rgo_last h0 n hn
      exact ⟨l, a, by simp [e, toLast_snoc]⟩
    | false => exact ⟨rgo m n, (n : Int) + 1, by simp⟩

/-- the end of the last range, or p -/
def lastE (p : Int) : RL → Int
  | [] => p
  | r :: t => lastE r.2 t
theorem lastE_snoc (l : RL) (r : Int × Int) : ∀ p, lastE p (l ++ [r]) = r.2 := by
  induction l with
  | nil => intro p; rfl
  | cons x t ih => intro p; exact ih _
theorem chkFrom_snoc (l : RL) (r : Int × Int) : ∀ p, chkFrom p (l ++ [r]) = 0 ↔ chkFrom p l = 0 ∧ rightB r.1 r.2 = true ∧ lastE p l + 2 ≤ r.1 := by
  induction l with
  | nil => intro p; simp only [List.nil_append, chkFrom, lastE]; split <;> (try split) <;> simp_all <;> omega
  | cons x t ih =>
    intro p
    simp only [List.cons_append, chkFrom, lastE]
    split
    · split
      · simp
      · exact ih _
    · simp
theorem lastE_le {l : RL} {n : Int} (h : ∀ r ∈ l, r.2 ≤ n) : ∀ {p}, p ≤ n → lastE p l ≤ n := by
  induction l with
  | nil => intro p hp; exact hp
  | cons x t ih => intro p _; exact ih (fun r hr => h r (List.mem_cons_of_mem _ hr)) (h x (by simp))
theorem inB_append (l k : RL) (c : Int) : inB (l ++ k) c = (inB l c || inB k c) := by simp [inB]
theorem rgo_spec {m : Nat → Bool} (h0 : m 0 = false) : ∀ n, n ≤ 999 →
    chk (rgo m n) = 0 ∧ (∀ r ∈ rgo m n, r.2 ≤ n ∧ (m n = false → r.2 + 1 ≤ n)) ∧ ∀ c : Int, inB (rgo m n) c = true ↔ 1 ≤ c ∧ c ≤ n ∧ m c.toNat = true
  | 0, _ => ⟨rfl, by simp [rgo], by intro c; simp [rgo, inB]; intro a b; omega⟩
  | n + 1, hn => by
    obtain ⟨h1, h2, h3⟩ := rgo_spec h0 n (by omega)
    cases hs : m (n + 1) with
    | false =>
      have e : rgo m (n + 1) = rgo m n := by simp [rgo, hs]
      rw [e]
      refine ⟨h1, fun r hr => by have := (h2 r hr).1; omega, fun c => ?_⟩
      rw [h3]
      constructor
      · rintro ⟨a, b, d⟩; exact ⟨a, by omega, d⟩
      · rintro ⟨a, b, d⟩
        refine ⟨a, ?_, d⟩
        by_cases hc : c = n + 1
        · subst hc; rw [show ((n : Int) + 1).toNat = n + 1 from by omega, hs] at d; cases d
        · omega
    | true =>
      cases hm : m n with
      | false =>
        have e : rgo m (n + 1) = rgo m n ++ [((n : Int) + 1, (n : Int) + 1)] := by simp [rgo, hs, hm]
        rw [e]
        refine ⟨?_, ?_, fun c => ?_⟩
        · refine (chkFrom_snoc _ _ _).2 ⟨h1, by rw [rightB_iff]; simp; omega, ?_⟩
          have := lastE_le (l := rgo m n) (n := (n : Int) - 1) (p := -1) (fun r hr => by have := (h2 r hr).2 hm; omega) (by omega)
          simp; omega
        · intro r hr
          rcases List.mem_append.1 hr with hr | hr
          · have := (h2 r hr).1; omega
          · simp at hr; subst hr; simp
        · rw [inB_append, Bool.or_eq_true, h3]
          simp only [inB, List.any_cons, List.any_nil, Bool.or_false, decide_eq_true_eq]
          constructor
          · rintro (⟨a, b, d⟩ | ⟨a, b⟩)
            · exact ⟨a, by omega, d⟩
            · obtain rfl : c = n + 1 := by omega
              exact ⟨by omega, by omega, by rw [show ((n : Int) + 1).toNat = n + 1 from by omega, hs]⟩
          · rintro ⟨a, b, d⟩
            by_cases hc : c ≤ n
            · exact .inl ⟨a, hc, d⟩
            · exact .inr (by omega)
      | true =>
        obtain ⟨l, a, el⟩ := rgo_last h0 n hm
        have e : rgo m (n + 1) = l ++ [(a, (n : Int) + 1)] := by simp [rgo, hs, hm, el, toLast_snoc]
        rw [el] at h1 h2 h3
        rw [e]
        have h1' := (chkFrom_snoc _ _ _).1 h1
        have hr := rightB_iff.1 h1'.2.1
        simp only at hr
        refine ⟨?_, ?_, fun c => ?_⟩
        · exact (chkFrom_snoc _ _ _).2 ⟨h1'.1, by rw [rightB_iff]; simp; omega, h1'.2.2⟩
        · intro r hr
          rcases List.mem_append.1 hr with hr | hr
          · have := (h2 r (by simp [hr])).1; omega
          · simp at hr; subst hr; simp
        · have h3c := h3 c
          rw [inB_append, Bool.or_eq_true] at h3c ⊢
          simp only [inB, List.any_cons, List.any_nil, Bool.or_false, decide_eq_true_eq] at h3c ⊢
          by_cases hc : c = n + 1
          · subst hc
            rw [show ((n : Int) + 1).toNat = n + 1 from by omega, hs]
            constructor
            · intro _; exact ⟨by omega, by omega, rfl⟩
            · intro _; exact .inr (by omega)
          · constructor
            · rintro (h | h)
              · have := h3c.1 (.inl h); exact ⟨this.1, by omega, this.2.2⟩
              · have := h3c.1 (.inr (by omega)); exact ⟨this.1, by omega, this.2.2⟩
            · rintro ⟨p, q, d⟩
              rcases h3c.2 ⟨p, by omega, d⟩ with h | h
              · exact .inl h
              · exact .inr (by omega)
theorem rangesOf_chk {m : Nat → Bool} (h0 : m 0 = false) : chk (rangesOf m) = 0 := (rgo_spec h0 999 (by omega)).1
theorem rangesOf_in {m : Nat → Bool} (h0 : m 0 = false) {c : Nat} (h1 : 1 ≤ c) (h2 : c ≤ 999) : inB (rangesOf m) c = m c := by
  have := (rgo_spec h0 999 (by omega)).2.2 c
  rw [Bool.eq_iff_iff]
  unfold rangesOf
  rw [this, Int.toNat_natCast]
  exact ⟨fun h => h.2.2, fun h => ⟨by omega, by omega, h⟩⟩
theorem rangesOf_length (m : Nat → Bool) : (rangesOf m).length ≤ 999 := rgo_length m 999
/-- a set has one list -/
theorem uniq : ∀ (l k : RL) (p : Int), chkFrom p l = 0 → chkFrom p k = 0 → (∀ c, inB l c = inB k c) → l = k
  | [], [], _, _, _, _ => rfl
  | [], r :: t, p, _, h, e => by
    have := e r.1
    have hr := chkFrom_ok h r (by simp)
    have : inB (r :: t) r.1 = true := inB_iff.2 ⟨r, by simp, by omega, by omega⟩
    rw [← e] at this; simp [inB] at this
  | r :: t, [], p, h, _, e => by
    have hr := chkFrom_ok h r (by simp)
    have : inB (r :: t) r.1 = true := inB_iff.2 ⟨r, by simp, by omega, by omega⟩
    rw [e] at this; simp [inB] at this
  | r :: t, r' :: t', p, h, h', e => by
    have hr := chkFrom_ok h r (by simp)
    have hr' := chkFrom_ok h' r' (by simp)
    have g : chkFrom r.2 t = 0 := by
      simp only [chkFrom] at h; split at h <;> (try split at h) <;> simp_all
    have g' : chkFrom r'.2 t' = 0 := by
      simp only [chkFrom] at h'; split at h' <;> (try split at h') <;> simp_all
    have lo : ∀ c, inB (r :: t) c = true → (r.1 ≤ c ∧ c ≤ r.2) ∨ r.2 + 2 ≤ c := by
      intro c hc
      obtain ⟨x, hx, hxc⟩ := inB_iff.1 hc
      rcases List.mem_cons.1 hx with rfl | hx
      · exact .inl hxc
      · have := chkFrom_ok g x hx; exact .inr (by omega)
    have lo' : ∀ c, inB (r' :: t') c = true → (r'.1 ≤ c ∧ c ≤ r'.2) ∨ r'.2 + 2 ≤ c := by
      intro c hc
      obtain ⟨x, hx, hxc⟩ := inB_iff.1 hc
      rcases List.mem_cons.1 hx with rfl | hx
      · exact .inl hxc
      · have := chkFrom_ok g' x hx; exact .inr (by omega)
    have up : ∀ c, r.1 ≤ c → c ≤ r.2 → inB (r' :: t') c = true := fun c a b => by rw [← e]; exact inB_iff.2 ⟨r, by simp, a, b⟩
    have up' : ∀ c, r'.1 ≤ c → c ≤ r'.2 → inB (r :: t) c = true := fun c a b => by rw [e]; exact inB_iff.2 ⟨r', by simp, a, b⟩
    have e1 : r.1 = r'.1 := by
      have a := lo' _ (up r.1 (by omega) (by omega))
      have b := lo _ (up' r'.1 (by omega) (by omega))
      omega
    have e2 : r.2 = r'.2 := by
      by_cases c1 : r.2 < r'.2
      · have := lo _ (up' (r.2 + 1) (by omega) (by omega)); omega
      · by_cases c2 : r'.2 < r.2
        · have := lo' _ (up (r'.2 + 1) (by omega) (by omega)); omega
        · omega
    have et : t = t' := by
      refine uniq t t' r.2 g (by rw [e2]; exact g') fun c => ?_
      have ec := e c
      rw [Bool.eq_iff_iff] at ec ⊢
      constructor
      · intro hc
        obtain ⟨x, hx, hxc⟩ := inB_iff.1 hc
        have := chkFrom_ok g x hx
        obtain ⟨y, hy, hyc⟩ := inB_iff.1 (ec.1 (inB_iff.2 ⟨x, by simp [hx], hxc⟩))
        rcases List.mem_cons.1 hy with rfl | hy
        · omega
        · exact inB_iff.2 ⟨y, hy, hyc⟩
      · intro hc
        obtain ⟨x, hx, hxc⟩ := inB_iff.1 hc
        have := chkFrom_ok g' x hx
        obtain ⟨y, hy, hyc⟩ := inB_iff.1 (ec.2 (inB_iff.2 ⟨x, by simp [hx], hxc⟩))
        rcases List.mem_cons.1 hy with rfl | hy
        · omega
        · exact inB_iff.2 ⟨y, hy, hyc⟩
    rw [et, Prod.ext e1 e2]
theorem rangesOf_self {l : RL} (h : chk l = 0) {m : Nat → Bool} (hm : ∀ c : Nat, m c = inB l c) : rangesOf m = l := by
  have h0 : m 0 = false := by
    rw [hm, Bool.eq_false_iff]
    intro hc
    obtain ⟨r, hr, hc⟩ := inB_iff.1 hc
    have := chk_ok h r hr
    simp at hc; omega
  refine uniq _ _ (-1) (rangesOf_chk h0) h fun c => ?_
  have := (rgo_spec h0 999 (by omega)).2.2 c
  rw [Bool.eq_iff_iff]
  unfold rangesOf
  rw [this, hm]
  constructor
  · rintro ⟨a, b, d⟩; rwa [show ((c.toNat : Nat) : Int) = c from by omega] at d
  · intro hc
    obtain ⟨r, hr, hrc⟩ := inB_iff.1 hc
    have := chk_ok h r hr
    exact ⟨by omega, by simp; omega, by rwa [show ((c.toNat : Nat) : Int) = c from by omega]⟩

theorem span_length (a b : Int) : (span a b).length = (b + 1 - a).toNat := by simp [span]
theorem span_take_succ (a b : Int) (t : Nat) (ht : t < (b + 1 - a).toNat) : (span a b).take (t + 1) = (span a b).take t ++ [a + t] := by
  rw [List.take_succ_eq_append_getElem (by rw [span_length]; exact ht)]
  simp [span]
theorem listed_take_succ (l : RL) (k : Nat) (hk : k < l.length) : listed (l.take (k + 1)) = listed (l.take k) ++ span l[k].1 l[k].2 := by
  unfold listed
  rw [List.take_succ_eq_append_getElem hk, List.flatMap_append]
  simp only [List.flatMap_cons, List.flatMap_nil, List.append_nil]
theorem listed_length {l : RL} (h : ∀ r ∈ l, 1 ≤ r.1 ∧ r.1 ≤ r.2 ∧ r.2 ≤ 999) : (listed l).length ≤ 999 * l.length := by
  induction l with
  | nil => simp [listed]
  | cons r t ih =>
    have := ih fun x hx => h x (by simp [hx])
    have hr := h r (by simp)
    have e : listed (r :: t) = span r.1 r.2 ++ listed t := by simp [listed]
    rw [e, List.length_append, span_length]
    simp only [List.length_cons]
    omega
theorem right_take {l : RL} (h : ∀ r ∈ l, 1 ≤ r.1 ∧ r.1 ≤ r.2 ∧ r.2 ≤ 999) (k : Nat) : ∀ r ∈ l.take k, 1 ≤ r.1 ∧ r.1 ≤ r.2 ∧ r.2 ≤ 999 := fun r hr => h r (List.mem_of_mem_take hr)
theorem listed_take_length {l : RL} (h : ∀ r ∈ l, 1 ≤ r.1 ∧ r.1 ≤ r.2 ∧ r.2 ≤ 999) (k : Nat) (hk : k ≤ l.length) : (listed (l.take k)).length ≤ 999 * k := by
  have := listed_length (right_take h k)
  rw [List.length_take] at this
  rwa [Nat.min_eq_left hk] at this

theorem inB_take_succ (l : RL) (k : Nat) (hk : k < l.length) (c : Int) : inB (l.take (k + 1)) c = (inB (l.take k) c || decide (l[k].1 ≤ c ∧ c ≤ l[k].2)) := by
  rw [List.take_succ_eq_append_getElem hk, inB_append]; simp [inB]

theorem win_zero (p : Bool) (x c : Nat) : (p || (decide (x ≤ c) && decide (c < x + 0))) = p := by
  rw [show (decide (x ≤ c) && decide (c < x + 0)) = false from by first | (simp; omega) | simp, Bool.or_false]
theorem win_step (p v old : Bool) (x t c : Nat) : (if p || (decide (x ≤ c) && decide (c < x + (t + 1))) then v else old) = if c = x + t then v else if p || (decide (x ≤ c) && decide (c < x + t)) then v else old := by
  by_cases h : c = x + t
  · subst h; simp
  · rw [if_neg h, show decide (c < x + (t + 1)) = decide (c < x + t) from decide_eq_decide.2 (by omega)]
theorem win_end (p : Bool) (x y c : Nat) (a b : Int) (ha : a = x) (hb : b = y) (hxy : x ≤ y) : (p || (decide (x ≤ c) && decide (c < x + (y + 1 - x)))) = (p || decide (a ≤ c ∧ (c : Int) ≤ b)) := by
  subst ha; subst hb
  rw [show x + (y + 1 - x) = y + 1 from by omega, Bool.decide_and]
  rw [show decide (x ≤ c) = decide ((x : Int) ≤ c) from by rw [decide_eq_decide]; omega, show decide (c < y + 1) = decide ((c : Int) ≤ y) from by rw [decide_eq_decide]; omega]

theorem rgo_no {m : Nat → Bool} {k : Nat} (h : m (k + 1) = false) : rgo m (k + 1) = rgo m k := by simp [rgo, h]
theorem rgo_new {m : Nat → Bool} {k : Nat} (h : m (k + 1) = true) (h' : m k = false) : rgo m (k + 1) = rgo m k ++ [((k : Int) + 1, (k : Int) + 1)] := by simp [rgo, h, h']
theorem rgo_on {m : Nat → Bool} {k : Nat} (h0 : m 0 = false) (h : m (k + 1) = true) (h' : m k = true) : ∃ L a, rgo m k = L ++ [(a, (k : Int))] ∧ rgo m (k + 1) = L ++ [(a, (k : Int) + 1)] := by
  obtain ⟨L, a, e⟩ := rgo_last h0 k h'
  exact ⟨L, a, e, by simp [rgo, h, h', e, toLast_snoc]⟩

/-- what Make and Of return -/
def makeL (l : RL) : RL × Int := if 256 < l.length then ([], 5) else if l.all (fun r => rightB r.1 r.2) then (rangesOf (fun c => inB l c), 0) else ([], 2)
def chanB (c : Int) : Bool := decide (1 ≤ c ∧ c ≤ 999)
def ofL (l : List Int) : RL × Int := if 4096 < l.length then ([], 5) else if l.all chanB then (rangesOf (fun c => l.contains (c : Int)), 0) else ([], 2)
theorem all_take {α : Type} (l : List α) (p : α → Bool) (k : Nat) (hk : k < l.length) (h : (l.take k).all p = true) : (l.take (k + 1)).all p = p l[k] := by
  rw [List.take_succ_eq_append_getElem hk, List.all_append, h]; simp
theorem all_false {α : Type} (l : List α) (p : α → Bool) (k : Nat) (hk : k < l.length) (h : p l[k] = false) : l.all p = false := by
  rw [Bool.eq_false_iff]
  intro hh
  rw [List.all_eq_true] at hh
  have := hh l[k] (List.getElem_mem hk)
  rw [h] at this; cases this
theorem contains_take (l : List Int) (k : Nat) (hk : k < l.length) (c : Int) : (l.take (k + 1)).contains c = (if c = l[k] then true else (l.take k).contains c) := by
  rw [List.take_succ_eq_append_getElem hk]
  have e : ∀ m : List Int, (m ++ [l[k]]).contains c = (if c = l[k] then true else m.contains c) := by
    intro m
    by_cases h : c = l[k]
    · simp [h]
    · simp [h]
  exact e _
theorem makeL_many {l : RL} (h : 256 < l.length) : makeL l = ([], 5) := by simp [makeL, h]
theorem makeL_bad {l : RL} (h : l.length ≤ 256) (k : Nat) (hk : k < l.length) (hb : rightB l[k].1 l[k].2 = false) : makeL l = ([], 2) := by
  simp only [makeL]
  rw [if_neg (by omega), all_false l (fun r => rightB r.1 r.2) k hk hb]; rfl
theorem makeL_ok {l : RL} (h : l.length ≤ 256) (ha : l.all (fun r => rightB r.1 r.2) = true) : makeL l = (rangesOf (fun c => inB l c), 0) := by
  simp only [makeL]
  rw [if_neg (by omega), ha]; rfl
theorem ofL_many {l : List Int} (h : 4096 < l.length) : ofL l = ([], 5) := by simp [ofL, h]
theorem ofL_bad {l : List Int} (h : l.length ≤ 4096) (k : Nat) (hk : k < l.length) (hb : chanB l[k] = false) : ofL l = ([], 2) := by
  simp only [ofL]
  rw [if_neg (by omega), all_false l chanB k hk hb]; rfl
theorem ofL_ok {l : List Int} (h : l.length ≤ 4096) (ha : l.all chanB = true) : ofL l = (rangesOf (fun c => l.contains (c : Int)), 0) := by
  simp only [ofL]
  rw [if_neg (by omega), ha]; rfl
theorem rightB_all {l : RL} (h : l.all (fun r => rightB r.1 r.2) = true) : ∀ r ∈ l, 1 ≤ r.1 ∧ r.1 ≤ r.2 ∧ r.2 ≤ 999 := fun r hr => rightB_iff.1 (List.all_eq_true.1 h r hr)
theorem chanB_all {l : List Int} (h : l.all chanB = true) : ∀ c ∈ l, 1 ≤ c ∧ c ≤ 999 := fun c hc => by have := List.all_eq_true.1 h c hc; simpa [chanB] using this
theorem inB_zero {l : RL} (h : ∀ r ∈ l, 1 ≤ r.1 ∧ r.1 ≤ r.2 ∧ r.2 ≤ 999) : inB l ((0 : Nat) : Int) = false := by
  rw [Bool.eq_false_iff]
  intro hc
  obtain ⟨r, hr, hc⟩ := inB_iff.1 hc
  have := h r hr
  simp at hc; omega
theorem contains_zero {l : List Int} (h : ∀ c ∈ l, 1 ≤ c ∧ c ≤ 999) : l.contains ((0 : Nat) : Int) = false := by
  rw [Bool.eq_false_iff]
  intro hc
  have := h 0 (by simpa using hc)
  omega
end Go.Proofs.YteaofninjbhiaaaDoor
