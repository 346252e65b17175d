/- Contracts of the reference's United, kept, Without, Union, Minus and Common. -/
import Derived.Test.YteaofninjbhiaaaDoorComb
import Derived.Laws.AppendOwnNone
namespace Go.Proofs.YteaofninjbhiaaaDoor
open Go.RowKit

theorem wpList_append_both {P : Program} {w : World} {ops : Array Oper} {rest : List Oper} {o : Oper} {a : Act} {Q : Exit → Act → World → Prop} (hgd : o.guard = none) (s x : Operand) (t : TypeId)
    (ho : o.op = .call { callee := .builtin .append, args := #[s, x], argTypes := #[t, t] })
    (base : Nat) (e : TypeId) (z : Value) (size bytes : Nat) (ht : P.underlying t = some (.slice e)) (hinfo : (P.info? e).map (fun i => (i.zero, i.size, i.bytes)) = some (some z, size, bytes)) (hzs : z.cells.size = size) (hsz : 0 < size)
    (v : Value) (n : Nat) (xs : List Value) (hs : a.eval s = v) (hown : w.ownsRow base e size v n xs)
    (base2 : Nat) (v2 : Value) (m : Nat) (news : List Value) (hx : a.eval x = v2) (hsrc : w.ownsRow base2 e size v2 m news) (h1 : ∀ u ∈ news, u.oneCell' = true)
    (h63 : n + m ≤ maxLen) (hbytes : (n + m) * bytes ≤ 140737488355328) (hbase : base ≤ w.heap.size)
    (h : ∀ v' w', w'.ownsRow base e size v' (n + m) (xs ++ news) → w.grownBy w' v.ownBlock → wpList P ops Q rest (a.put o.dst v') w') :
    wpList P ops Q (o :: rest) a w := by
  obtain ⟨i, hi, hz, hsize, hby⟩ := info_parts hinfo
  rcases hsrc.2 with ⟨rfl, rfl⟩ | ⟨g, cap, cur, rfl, _⟩
  · have hn : news = [] := List.eq_nil_of_length_eq_zero (by simpa using hsrc.1)
    subst hn
    refine wpList_append_own_none hgd s x t ho base e i size ht hi v n xs hs hown hx ?_
    exact h v w (by simpa using hown) (World.grownBy.refl _ _)
  · refine wpList_append_own (w := w) hgd s x t ho base e i z size bytes ht hi hz hsize hby hzs hsz v n xs hs hown ⟨g, 0, none⟩ m cap news hx hsrc.1 (hsrc.cells (g := g) rfl) h1 h63 hbytes hbase ?_
    intro v' w' hown' hg _
    exact h v' w' hown' hg

theorem contains_listed (a : RL) (c : Int) : (listed a).contains c = inB a c := by
  rw [Bool.eq_iff_iff, inB_listed]; simp
theorem listed_range {a : RL} (h : ∀ r ∈ a, 1 ≤ r.1 ∧ r.1 ≤ r.2 ∧ r.2 ≤ 999) : ∀ c ∈ listed a, 1 ≤ c ∧ c ≤ 999 := by
  intro c hc
  obtain ⟨r, hr, h1, h2⟩ := mem_listed.1 hc
  have := h r hr; omega
def keptL (a b : RL) (q : Bool) : List Int := (listed a).filter fun c => inB b c == q
theorem keptL_contains (a b : RL) (q : Bool) (c : Int) : (keptL a b q).contains c = (inB a c && (inB b c == q)) := by
  rw [Bool.eq_iff_iff, Bool.and_eq_true, inB_listed, List.contains_iff_mem, keptL, List.mem_filter]
theorem filter_take_yes {l : List Int} {p : Int → Bool} {k : Nat} (hk : k < l.length) (h : p l[k] = true) : (l.take (k + 1)).filter p = (l.take k).filter p ++ [l[k]] := by
  rw [List.take_succ_eq_append_getElem hk, List.filter_append]; simp [h]
theorem filter_take_no {l : List Int} {p : Int → Bool} {k : Nat} (hk : k < l.length) (h : p l[k] = false) : (l.take (k + 1)).filter p = (l.take k).filter p := by
  rw [List.take_succ_eq_append_getElem hk, List.filter_append]; simp [h]

set_option maxHeartbeats 1000000 in
theorem refUnited_any (A : Option Addr) (n c : Nat) (a : RL) (B : Option Addr) (n' c' : Nat) (b : RL) (w : World) (ha : Rs w A n a) (hb : Rs w B n' b) (hn : n ≤ 100000) (hn' : n' ≤ 100000)
    (hra : ∀ r ∈ a, 1 ≤ r.1 ∧ r.1 ≤ r.2 ∧ r.2 ≤ 999) (hrb : ∀ r ∈ b, 1 ≤ r.1 ∧ r.1 ≤ r.2 ∧ r.2 ≤ 999) :
    Calls Tryd.prog 50 #[.slice A n c, .slice B n' c'] w fun e w' => ∃ r, e = .returned r ∧ OutR 73 (rangesOf fun c => inB a c || inB b c) w r w' := by
  have hla := listed_length hra
  have hlb := listed_length hrb
  have hfin := Lib.hid (rangesOf_congr (m := fun c => (listed a ++ listed b).contains (c : Int)) (m' := fun c => inB a c || inB b c) (fun c _ => by
    show (listed a ++ listed b).contains (c : Int) = _
    rw [← contains_listed a, ← contains_listed b]; simp))
  have HRa := Lib.hid hra
  have HRb := Lib.hid hrb
  have hal := ha.1
  have hbl := hb.1
  clear hra hrb
  have hla1 : (listed a).length ≤ 99900000 := by omega
  have hlb1 : (listed b).length ≤ 99900000 := by omega
  have hrng : Hid (∀ c ∈ listed a ++ listed b, 1 ≤ c ∧ c ≤ 999) := by
    intro c hc
    rcases List.mem_append.1 hc with hc | hc
    · exact listed_range HRa.out c hc
    · exact listed_range HRb.out c hc
  clear hla hlb hal hbl
  go_enter Tryd.func50, Tryd.ntmps50
  go_wp2_with fail
  refine (refListed_any _ _ c a _ ha (by omega) HRa.out).mono ?_
  rintro e w1 ⟨r1, rfl, A1, c1, rfl, ho1, hb1⟩
  have ho1' := own_mono (base' := w.heap.size) ho1 (Nat.le_refl _)
  go_wp2_with fail
  refine (refListed_any _ _ c' b _ (hb.below hb1) (by omega) HRb.out).mono ?_
  rintro e w2 ⟨r2, rfl, A2, c2, rfl, ho2, hb2⟩
  have ho3 : w2.ownsRow w.heap.size 3 1 (.slice A1 (listed a).length c1) (listed a).length (iv (listed a)) := ho1.kept (row := none) ⟨hb2.os, hb2.tape, hb2.output, hb2.size, fun k hk _ => hb2.block k hk⟩ (by
    rcases ho1.2 with ⟨h, _⟩ | ⟨g, cap, cur, h, _⟩
    · rw [h]; exact .inl rfl
    · rw [h]; exact .inr (by simp [Value.ownBlock]))
  have hb3 := hb1.trans (hb2.mono hb1.size)
  clear ho1 ho1'
  go_wp2_with (at_builtin; refine wpList_append_both rfl _ _ _ rfl w.heap.size _ _ 1 8 Tryd.underlying54 infoI rfl (by omega) _ (listed a).length _ rfl ho3 w1.heap.size _ (listed b).length _ rfl ho2 (iv_one _) (by unfold maxLen; omega) (by omega) hb3.size ?_; intro v3 w3 hown3 hg3; rw [← iv_append, ← List.length_append] at hown3; obtain ⟨A3, c3, rfl⟩ := own_form hown3; have hb4 := below_push hb3 (Nat.le_refl _) ho3 hg3)
  refine (refSet_any _ ((listed a).length + (listed b).length) c3 (listed a ++ listed b) _ (by rw [← List.length_append]; exact ⟨rfl, Sl.of_own hown3⟩) (by omega) hrng.out).mono ?_
  rintro e w4 ⟨r, rfl, ho⟩
  rw [hfin.out] at ho
  go_wp2_with fail
  go_ret
  exact ⟨_, rfl, ho.up hb4⟩

set_option maxHeartbeats 2000000 in
theorem refKept_any (q : Bool) (A : Option Addr) (n c : Nat) (a : RL) (B : Option Addr) (n' c' : Nat) (b : RL) (w : World) (ha : Rs w A n a) (hb : Rs w B n' b) (hn : n ≤ 100000) (hn' : n' ≤ 100000)
    (hra : ∀ r ∈ a, 1 ≤ r.1 ∧ r.1 ≤ r.2 ∧ r.2 ≤ 999) :
    Calls Tryd.prog 54 #[.slice A n c, .slice B n' c', .bool q] w fun e w' => ∃ r, e = .returned r ∧ OutR 73 (rangesOf fun c => inB a c && (inB b c == q)) w r w' := by
  have hla := listed_length hra
  have hfin := Lib.hid (rangesOf_congr (m := fun c => (keptL a b q).contains (c : Int)) (m' := fun c => inB a c && (inB b c == q)) (fun c _ => keptL_contains a b q c))
  have HRa := Lib.hid hra
  have hal := ha.1
  clear hra
  have hla1 : (listed a).length ≤ 99900000 := by omega
  have hrng : Hid (∀ c ∈ keptL a b q, 1 ≤ c ∧ c ≤ 999) := fun c hc => listed_range HRa.out c ((List.mem_filter.1 hc).1)
  clear hla hal
  go_enter Tryd.func54, Tryd.ntmps54
  go_wp2_with fail
  refine (refListed_any _ _ c a _ ha (by omega) HRa.out).mono ?_
  rintro e w1 ⟨r1, rfl, A1, c1, rfl, ho1, hb1⟩
  have hI : Is w1 A1 (listed a).length (listed a) := ⟨rfl, Sl.of_own ho1⟩
  have hbB := hb.below hb1
  clear ho1
  generalize hL : listed a = L at *
  have HL := Lib.hid hL
  clear hL
  go_wp2_with fail
  go_loopw [7, 9] (fun v i wr => ∃ k : Nat, k ≤ L.length ∧ i = .int .i64 k ∧ wr.ownsRow w1.heap.size 3 1 v ((L.take k).filter (fun c => inB b c == q)).length (iv ((L.take k).filter (fun c => inB b c == q))) ∧ Below w1.heap.size w1 wr) (fun _ i _ => L.length - (intOf i).toNat)
  case atStart => exact ⟨0, Nat.zero_le _, rfl, World.ownsRow_nil _ _ _ _, Below.refl _ _⟩
  case round =>
    obtain ⟨k, hk, rfl, hown, hbw⟩ := hrel
    have hsz := hbw.size
    by_cases hlt : k < L.length
    · obtain ⟨b1, o1, rfl, hbl, hc1⟩ := (hI.below hbw).at1 hlt
      have hbB' := hbB.below hbw
      have hlen := List.length_filter_le (fun c => inB b c == q) (L.take k)
      rw [List.length_take] at hlen
      cases hp : (inB b L[k] == q) with
      | true =>
        have hn1 := Lib.hid (filter_take_yes (p := fun c => inB b c == q) hlt hp)
        have hpe : inB b L[k] = q := by simpa using hp
        clear hp
        generalize L[k] = x at *
        generalize (L.take k).filter (fun c => inB b c == q) = M at *
        go_wp2_with (first | (go_at_call 57; refine (refIn_any _ _ c' b x _ hbB' (by omega)).mono ?_; rw [hpe]; rintro e w2 ⟨rfl, rfl⟩) | (at_builtin; refine wpList_push rfl _ _ _ rfl w1.heap.size _ _ 1 8 Tryd.underlying54 infoI rfl (by omega) _ M.length _ rfl hown [.int .i64 x] _ _ _ rfl (by first | rfl | simp) rfl (one_one _) (by unfold maxLen; omega) (by omega) (by first | omega | (simp; omega) | simp) ?_; intro g cap w1 hown1 hg1))
        go_roundw
        case rel => exact ⟨k + 1, by omega, by go_num, by rw [hn1.out, iv_append, List.length_append]; exact hown1, below_push hbw (Nat.le_refl _) hown hg1⟩
        case measure => simp [intOf]; omega
      | false =>
        have hn1 := Lib.hid (filter_take_no (p := fun c => inB b c == q) hlt hp)
        have hpe : inB b L[k] = !q := by cases h1 : inB b L[k] <;> cases q <;> simp_all
        clear hp
        generalize L[k] = x at *
        generalize (L.take k).filter (fun c => inB b c == q) = M at *
        have hq : (!q == q) = false := by cases q <;> rfl
        go_wp2_with (go_at_call 57; refine (refIn_any _ _ c' b x _ hbB' (by omega)).mono ?_; rw [hpe]; rintro e w2 ⟨rfl, rfl⟩)
        go_roundw
        case rel => exact ⟨k + 1, by omega, by go_num, by rw [hn1.out]; exact hown, hbw⟩
        case measure => simp [intOf]; omega
    · obtain rfl : k = L.length := by omega
      rw [List.take_length] at hown
      have he : L.filter (fun c => inB b c == q) = keptL a b q := by rw [keptL, HL.out]
      have hlen := List.length_filter_le (fun c => inB b c == q) L
      rw [he] at hown hlen
      clear he
      obtain ⟨A2, c2, rfl⟩ := own_form hown
      go_wp2_with (go_at_call 62; refine (refSet_any _ _ c2 (keptL a b q) _ ⟨rfl, Sl.of_own hown⟩ (by omega) hrng.out).mono ?_; rintro e w4 ⟨r, rfl, ho⟩; rw [hfin.out] at ho)
      go_ret
      exact ⟨_, rfl, ho.up (hb1.trans (hbw.mono hb1.size))⟩
end Go.Proofs.YteaofninjbhiaaaDoor
