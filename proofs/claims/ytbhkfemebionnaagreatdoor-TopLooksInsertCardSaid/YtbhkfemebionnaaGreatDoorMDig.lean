/- Lemmas and contracts of functions, joined for the claim: LkDig, LkNum, LkChk. -/
import Derived.Test.YtbhkfemebionnaaGreatDoorMBase
import Derived.Shelf.GgClosure.StringsIndexFuncTop
import Derived.Lib.DecodeN
import Derived.Lib.MapLaws
namespace Go.Proofs.YtbhkfemebionnaaGreatDoor
open Go.RowKit

def pOther (x : Nat) : Bool := decide (x < 48) || decide (57 < x)
theorem get_bang (s : ByteArray) (i : Nat) (h : i < s.size) : s.get! i = s[i] := by
  show s.data[i]! = s.data[i]
  exact getElem!_pos s.data i h
theorem idx_step (s : ByteArray) (pos : Nat) (h : pos < s.size) : (isDg s[pos] = true → pOther (Utf8.decode s pos).1 = false ∧ (Utf8.decode s pos).2 = 1) ∧ (isDg s[pos] = false → pOther (Utf8.decode s pos).1 = true) := by
  rw [Lib.decode_at, get_bang s pos h]
  have hb : isDg s[pos] = decide (48 ≤ s[pos].toNat ∧ s[pos].toNat ≤ 57) := rfl
  rw [hb]
  generalize s[pos].toNat = b at *
  generalize s.size - pos = n at *
  unfold pOther
  rcases Lib.decodeN_shape n b (s.get! (pos + 1)).toNat (s.get! (pos + 2)).toNat (s.get! (pos + 3)).toNat with ⟨h1, e⟩ | ⟨h1, _, _, h2, e⟩ | ⟨h1, _, _, _, h2, _, e⟩ | ⟨h1, _, _, _, _, h2, _, e⟩ | e
  · rw [e]
    refine ⟨fun h => ?_, fun h => ?_⟩
    · rw [decide_eq_true_eq] at h
      refine ⟨?_, rfl⟩
      rw [decide_eq_false (by omega : ¬ b < 48), decide_eq_false (by omega : ¬ 57 < b)]; rfl
    · rw [decide_eq_false_iff_not] at h
      rw [Bool.or_eq_true, decide_eq_true_eq, decide_eq_true_eq]
      show b < 48 ∨ 57 < b
      omega
  all_goals
    refine ⟨fun h => ?_, fun h => ?_⟩
    · rw [decide_eq_true_eq] at h
      have : Lib.decodeN n b (s.get! (pos + 1)).toNat (s.get! (pos + 2)).toNat (s.get! (pos + 3)).toNat = (b, 1) := by unfold Lib.decodeN; rw [if_pos (by omega)]
      rw [this]
      refine ⟨?_, rfl⟩
      rw [decide_eq_false (by omega : ¬ b < 48), decide_eq_false (by omega : ¬ 57 < b)]; rfl
    · rw [decide_eq_false_iff_not] at h
      rw [Bool.or_eq_true, decide_eq_true_eq, decide_eq_true_eq]
      by_cases h8 : b < 128
      · have : Lib.decodeN n b (s.get! (pos + 1)).toNat (s.get! (pos + 2)).toNat (s.get! (pos + 3)).toNat = (b, 1) := by unfold Lib.decodeN; rw [if_pos h8]
        rw [this]
        show b < 48 ∨ 57 < b
        omega
      · right
        rw [e]
        first | (show 57 < 65533; omega) | (show 57 < _ + _; omega)
theorem idx_from (s : ByteArray) : ∀ (f pos : Nat), s.size ≤ f + pos → (Lib.idxFuncFrom pOther true s f pos < 0 ↔ ∀ i (h : i < s.size), pos ≤ i → isDg s[i] = true)
  | 0, pos, hf => by
    refine ⟨fun _ i h hp => absurd h (by omega), fun _ => ?_⟩
    show (-1 : Int) < 0
    omega
  | f + 1, pos, hf => by
    unfold Lib.idxFuncFrom
    by_cases h : pos < s.size
    · rw [if_pos h]
      obtain ⟨h1, h2⟩ := idx_step s pos h
      cases hd : isDg s[pos]
      · rw [if_pos (h2 hd)]
        refine ⟨fun h => absurd h (by omega), fun h3 => ?_⟩
        rw [h3 pos h (Nat.le_refl _)] at hd
        cases hd
      · obtain ⟨e1, e2⟩ := h1 hd
        rw [if_neg (by rw [e1]; decide), e2, idx_from s f (pos + 1) (by omega)]
        refine ⟨fun h3 i hi hp => ?_, fun h3 i hi hp => h3 i hi (by omega)⟩
        rcases Nat.lt_or_ge pos i with h4 | h4
        · exact h3 i hi h4
        · obtain rfl : i = pos := by omega
          exact hd
    · rw [if_neg h]
      exact ⟨fun _ i hi hp => absurd hi (by omega), fun _ => by omega⟩
theorem idx_dig (s : ByteArray) : decide (Lib.idxFunc pOther true s < 0) = s.data.toList.all isDg := by
  rw [Bool.eq_iff_iff, decide_eq_true_eq, List.all_eq_true]
  unfold Lib.idxFunc
  rw [idx_from s s.size 0 (by omega)]
  constructor
  · intro h c hc
    obtain ⟨i, hi, rfl⟩ := List.getElem_of_mem hc
    rw [bytes_len] at hi
    exact h i hi (Nat.zero_le _)
  · intro h i hi _
    exact h _ (List.getElem_mem (by rw [bytes_len]; exact hi))

def dgB (s : BT) : Bool := !s.isEmpty && s.all isDg
set_option maxHeartbeats 1000000 in
theorem nother_any (x : Nat) (w : World) :
    Calls Tryz.prog 98 #[.int .i32 (x : Int)] w fun e w' => e = .returned (.bool (pOther x)) ∧ w' = w := by
  by_cases h1 : x < 48
  · have HV := Lib.hid (show pOther x = true by unfold pOther; rw [decide_eq_true h1]; rfl)
    have g1 : (x : Int) < 48 := by omega
    go_enter Tryz.func98, Tryz.ntmps98
    go_wp2
    go_ret
    exact ⟨by rw [HV.out]; rfl, rfl⟩
  · have g1 : ¬ (x : Int) < 48 := by omega
    by_cases h2 : 57 < x
    · have HV := Lib.hid (show pOther x = true by unfold pOther; rw [decide_eq_true h2, Bool.or_true])
      have g2 : (57 : Int) < (x : Int) := by omega
      go_enter Tryz.func98, Tryz.ntmps98
      go_wp2
      go_ret
      exact ⟨by rw [HV.out]; rfl, rfl⟩
    · have HV := Lib.hid (show pOther x = false by unfold pOther; rw [decide_eq_false h1, decide_eq_false h2]; rfl)
      have g2 : ¬ (57 : Int) < (x : Int) := by omega
      go_enter Tryz.func98, Tryz.ntmps98
      go_wp2
      go_ret
      exact ⟨by rw [HV.out]; rfl, rfl⟩
theorem emp_iff (s : ByteArray) : s.data.toList.isEmpty = decide (s = ⟨#[]⟩) := by
  rw [Bool.eq_iff_iff, decide_eq_true_eq, List.isEmpty_iff]
  exact ⟨fun h => ByteArray.ext (Array.ext' h), fun h => by rw [h]⟩
set_option maxHeartbeats 1000000 in
theorem ndig_any (s : ByteArray) (w : World) :
    Calls Tryz.prog 73 #[.string s] w fun e w' => e = .returned (.bool (dgB s.data.toList)) ∧ Below w.heap.size w w' := by
  have hB := Below.refl w.heap.size w
  have hbq := bytes_bq s ⟨#[]⟩
  by_cases hn : s = ⟨#[]⟩
  · subst hn
    go_enter Tryz.func73, Tryz.ntmps73
    go_wp2_with fail
    go_ret
    exact ⟨rfl, hB⟩
  · have hI := fun w => Tryz.strings_ContainsFunc 98 #[] (enters_of Tryz.func98 (by kernel_rfl) rfl) pOther s w (fun W x _ => (nother_any x W).mono fun _ _ ⟨h1, h2⟩ => ⟨h1, 0, by rw [h2]; rfl⟩)
    have hx := idx_dig s
    have HV := Lib.hid (show dgB s.data.toList = s.data.toList.all isDg by unfold dgB; rw [emp_iff, decide_eq_false hn]; rfl)
    generalize Lib.idxFunc pOther true s = n at *
    have HI := Lib.hid hI
    have HX := Lib.hid (show (!decide (0 ≤ n)) = s.data.toList.all isDg by rw [← hx, Bool.eq_iff_iff]; simp)
    rw [decide_eq_false hn] at hbq
    have hce : s.toList.isEmpty = false := by rw [ByteArray.toList_eq, emp_iff, decide_eq_false hn]
    clear hI hx hn
    go_enter Tryz.func73, Tryz.ntmps73
    go_wp2_with (go_at_call 97; with_reducible refine (HI.out _).mono ?_; rintro e wk ⟨rfl, hb⟩; replace hB := hB.trans (hb.mono hB.size); clear hb)
    go_ret
    exact ⟨by rw [HV.out, ← HX.out]; rfl, hB⟩
set_option maxHeartbeats 2000000 in
theorem rdig_any (s : ByteArray) (w : World) (hs : s.size ≤ 9223372036854775807) :
    Calls Tryz.prog 33 #[.string s] w fun e w' => e = .returned (.bool (dgB s.data.toList)) ∧ w' = w := by
  have HV := Lib.hid (show dgB s.data.toList = (decide (0 < s.size) && s.data.toList.all isDg) by
    unfold dgB
    rw [emp_iff]
    by_cases h : s = ⟨#[]⟩
    · subst h; rfl
    · have : 0 < s.size := by
        rcases Nat.eq_zero_or_pos s.size with h0 | h0
        · exact absurd (ByteArray.ext (Array.ext' (List.length_eq_zero_iff.1 (by rw [bytes_len]; exact h0)))) h
        · exact h0
      rw [decide_eq_false h, decide_eq_true this]; rfl)
  have HN := Lib.hid hs
  clear hs
  go_enter Tryz.func33, Tryz.ntmps33
  go_wp2
  go_loop [3] (fun v => ∃ i : Nat, i ≤ s.size ∧ v = .int .i64 i ∧ (s.data.toList.take i).all isDg = true) (fun v => s.size - (intOf v).toNat)
  case atStart => exact ⟨0, Nat.zero_le _, rfl, rfl⟩
  case round =>
    obtain ⟨i, hi, rfl, hall⟩ := hrel
    have HAll := Lib.hid hall
    clear hall
    by_cases hlt : i < s.size
    · have hlen : i < s.data.toList.length := by rw [bytes_len]; exact hlt
      have e1 : s.data.toList[i] = s[i] := rfl
      have hpush : (s.data.toList.take (i + 1)).all isDg = ((s.data.toList.take i).all isDg && isDg s[i]) := by
        rw [List.take_succ_eq_append_getElem hlen, List.all_append, e1]; simp
      rw [HAll.out, Bool.true_and] at hpush
      have HP := Lib.hid hpush
      have w0 : IntKind.i64.wrap ((i : Int) + 1) = (i : Int) + 1 := IntWalk.i64_in _ (by have := HN.out; omega)
      have hmem : s[i] ∈ s.data.toList := by rw [← e1]; exact List.getElem_mem hlen
      by_cases h1 : 48 ≤ s[i].toNat
      · by_cases h2 : s[i].toNat ≤ 57
        · have HT := Lib.hid (show isDg s[i] = true from decide_eq_true ⟨h1, h2⟩)
          have g1 : ¬ ((s[i].toNat : Nat) : Int) < 48 := by omega
          have g2 : ¬ (57 : Int) < ((s[i].toNat : Nat) : Int) := by omega
          clear hpush hmem
          go_wp2
          go_round
          case rel => exact ⟨i + 1, by omega, by go_num, by rw [HP.out, HT.out]⟩
          case measure => simp [intOf]; omega
        · have HF := Lib.hid (show dgB s.data.toList = false by
            rw [HV.out, Bool.and_eq_false_iff]; right
            rw [List.all_eq_false]
            exact ⟨_, hmem, by rw [show isDg s[i] = false from decide_eq_false (fun h => h2 h.2)]; simp⟩)
          have g1 : ¬ ((s[i].toNat : Nat) : Int) < 48 := by omega
          have g2 : (57 : Int) < ((s[i].toNat : Nat) : Int) := by omega
          clear hpush hmem
          go_wp2
          go_ret
          exact ⟨by rw [HF.out]; rfl, rfl⟩
      · have HF := Lib.hid (show dgB s.data.toList = false by
          rw [HV.out, Bool.and_eq_false_iff]; right
          rw [List.all_eq_false]
          exact ⟨_, hmem, by rw [show isDg s[i] = false from decide_eq_false (fun h => h1 h.1)]; simp⟩)
        have g1 : ((s[i].toNat : Nat) : Int) < 48 := by omega
        clear hpush hmem
        go_wp2
        go_ret
        exact ⟨by rw [HF.out]; rfl, rfl⟩
    · obtain rfl : i = s.size := by omega
      have hall := HAll.out
      rw [List.take_of_length_le (by rw [bytes_len]; omega)] at hall
      have HT := Lib.hid (show dgB s.data.toList = decide (0 < s.size) by rw [HV.out, hall, Bool.and_true])
      clear hall
      by_cases h0 : 0 < s.size
      · rw [decide_eq_true h0] at HT
        have g0 : (0 : Int) < (s.size : Int) := by omega
        go_wp2
        go_ret
        exact ⟨by rw [HT.out]; first | rfl | simp, rfl⟩
      · rw [decide_eq_false h0] at HT
        have g0 : ¬ (0 : Int) < (s.size : Int) := by omega
        go_wp2
        go_ret
        exact ⟨by rw [HT.out]; first | rfl | simp, rfl⟩
theorem point_at {q r : BT} (h : ∀ c ∈ q, c ≠ 46) : headB 46 (q ++ 46 :: r) = q ∧ hasB 46 (q ++ 46 :: r) = true ∧ tailB 46 (q ++ 46 :: r) = r := by
  have h1 : ∀ c ∈ q, (c != 46) = true := fun c hc => by simpa using h c hc
  have h2 : hasB 46 (q ++ 46 :: r) = true := by unfold hasB; simp
  refine ⟨?_, h2, ?_⟩
  · unfold headB
    rw [List.takeWhile_append_of_pos h1]
    simp
  · unfold tailB
    rw [h2, if_pos rfl, List.dropWhile_append_of_pos h1]
    simp
set_option maxHeartbeats 2000000 in
theorem rsplit_any (s : ByteArray) (w : World) (hs : s.size ≤ 9223372036854775807) :
    Calls Tryz.prog 32 #[.string s] w fun e w' => e = .returned (.tuple #[.string ⟨(headB 46 s.data.toList).toArray⟩, .string ⟨(tailB 46 s.data.toList).toArray⟩, .bool (hasB 46 s.data.toList)]) ∧ ∃ n, w' = w.drewN n := by
  have HN := Lib.hid hs
  clear hs
  go_enter Tryz.func32, Tryz.ntmps32
  go_wp2
  go_loop [5] (fun v => ∃ i : Nat, i ≤ s.size ∧ v = .int .i64 i ∧ hasB 46 (s.data.toList.take i) = false) (fun v => s.size - (intOf v).toNat)
  case atStart => exact ⟨0, Nat.zero_le _, rfl, rfl⟩
  case round =>
    obtain ⟨i, hi, rfl, hall⟩ := hrel
    have HAll := Lib.hid hall
    clear hall
    by_cases hlt : i < s.size
    · have hlen : i < s.data.toList.length := by rw [bytes_len]; exact hlt
      have e1 : s.data.toList[i] = s[i] := rfl
      have w0 : IntKind.i64.wrap ((i : Int) + 1) = (i : Int) + 1 := IntWalk.i64_in _ (by have := HN.out; omega)
      have hcat : s.data.toList = s.data.toList.take i ++ s[i] :: s.data.toList.drop (i + 1) := by
        rw [← e1, List.getElem_cons_drop, List.take_append_drop]
      by_cases h1 : s[i] = 46
      · have hno : ∀ c ∈ s.data.toList.take i, c ≠ 46 := fun c hc e => by
          have := HAll.out
          unfold hasB at this
          rw [List.any_eq_false] at this
          exact this c hc (by simp [e])
        obtain ⟨p1, p2, p3⟩ := point_at hno (r := s.data.toList.drop (i + 1))
        rw [h1] at hcat
        rw [← hcat] at p1 p2 p3
        have HP1 := Lib.hid (show s.extract 0 i = ⟨(headB 46 s.data.toList).toArray⟩ from bs_of (by rw [take_bytes0, p1]))
        have HP2 := Lib.hid (show s.extract (i + 1) s.size = ⟨(tailB 46 s.data.toList).toArray⟩ from bs_of (by rw [drop_bytes0, p3]))
        have HP3 := Lib.hid p2
        have g1 : ((s[i].toNat : Nat) : Int) = 46 := by rw [h1]; rfl
        have c1 : (0 : Int) ≤ (i : Int) := by omega
        have c2 : (i : Int) ≤ (s.size : Int) := by omega
        have c3 : (0 : Int) ≤ (i : Int) + 1 := by omega
        have c4 : (i : Int) + 1 ≤ (s.size : Int) := by omega
        clear p1 p2 p3 hno hcat e1
        go_wp2
        go_region
        go_wp2
        go_ret3
        exact ⟨by rw [HP3.out, ← HP1.out, ← HP2.out]; rfl, 1, rfl⟩
      · have h2 : ¬ s[i].toNat = 46 := fun e => h1 (UInt8.toNat_inj.1 e)
        have g1 : ¬ ((s[i].toNat : Nat) : Int) = 46 := by omega
        have HStep := Lib.hid (show hasB 46 (s.data.toList.take (i + 1)) = false by
          have := HAll.out
          unfold hasB at this ⊢
          rw [List.take_succ_eq_append_getElem hlen, List.any_append, this, e1]
          simp [h1])
        clear hcat e1
        go_wp2
        go_round
        case rel => exact ⟨i + 1, by omega, by go_num, HStep.out⟩
        case measure => simp [intOf]; omega
    · obtain rfl : i = s.size := by omega
      have hall := HAll.out
      rw [List.take_of_length_le (by rw [bytes_len]; omega)] at hall
      obtain ⟨n1, n2⟩ := head_none hall
      have HV := Lib.hid (show s = ⟨(headB 46 s.data.toList).toArray⟩ from bs_of n1.symm)
      have HH := Lib.hid (And.intro hall n2)
      clear hall n1 n2
      go_wp2
      go_ret3
      exact ⟨by rw [HH.out.1, HH.out.2, ← HV.out]; rfl, 0, rfl⟩
end Go.Proofs.YtbhkfemebionnaaGreatDoor

namespace Go.Proofs.YtbhkfemebionnaaGreatDoor
open Go.RowKit

def numF (hd P td : Bool) (n m : Nat) (f l z : Bool) : Int :=
  if hd = false ∨ (P = true ∧ td = false) ∨ (1 < n ∧ f = true) ∨ (P = true ∧ l = true) then 3 else if z = true ∨ 4 < n ∨ 3 < m then 2 else 0
def numE (s : BT) : Int := numF (dgB (headB 46 s)) (hasB 46 s) (dgB (tailB 46 s)) (headB 46 s).length (tailB 46 s).length (decide ((headB 46 s).head? = some 48)) (decide ((tailB 46 s).getLast? = some 48)) (decide (s = [48]))
theorem num3 {E : Int} {hd P td : Bool} {n m : Nat} {f l z : Bool} (h : E = numF hd P td n m f l z) (k : hd = false ∨ (P = true ∧ td = false) ∨ (1 < n ∧ f = true) ∨ (P = true ∧ l = true)) : E = 3 := by
  rw [h]; unfold numF; rw [if_pos k]
theorem num_no {hd P td : Bool} {n : Nat} {f l : Bool} (k : hd = true ∧ ¬ (P = true ∧ td = false) ∧ ¬ (1 < n ∧ f = true) ∧ ¬ (P = true ∧ l = true)) : ¬ (hd = false ∨ (P = true ∧ td = false) ∨ (1 < n ∧ f = true) ∨ (P = true ∧ l = true)) := by
  rintro (h | h | h | h)
  · rw [k.1] at h; cases h
  · exact k.2.1 h
  · exact k.2.2.1 h
  · exact k.2.2.2 h
theorem num2 {E : Int} {hd P td : Bool} {n m : Nat} {f l z : Bool} (h : E = numF hd P td n m f l z) (k : hd = true ∧ ¬ (P = true ∧ td = false) ∧ ¬ (1 < n ∧ f = true) ∧ ¬ (P = true ∧ l = true)) (j : z = true ∨ 4 < n ∨ 3 < m) : E = 2 := by
  rw [h]; unfold numF; rw [if_neg (num_no k), if_pos j]
theorem num0 {E : Int} {hd P td : Bool} {n m : Nat} {f l z : Bool} (h : E = numF hd P td n m f l z) (k : hd = true ∧ ¬ (P = true ∧ td = false) ∧ ¬ (1 < n ∧ f = true) ∧ ¬ (P = true ∧ l = true)) (j : z = false ∧ ¬ 4 < n ∧ ¬ 3 < m) : E = 0 := by
  have nj : ¬ (z = true ∨ 4 < n ∨ 3 < m) := by
    rintro (h | h | h)
    · rw [j.1] at h; cases h
    · exact j.2.1 h
    · exact j.2.2 h
  rw [h]; unfold numF; rw [if_neg (num_no k), if_neg nj]
theorem first_48 (b : ByteArray) (h : 0 < b.size) : (decide (b.data.toList.head? = some 48) = true ↔ ((b[0].toNat : Nat) : Int) = 48) := by
  have hl : 0 < b.data.toList.length := by rw [bytes_len]; exact h
  have e : b.data.toList.head? = some b[0] := by rw [List.head?_eq_getElem?, List.getElem?_eq_getElem hl]; rfl
  rw [e, decide_eq_true_eq]
  constructor
  · intro h; injection h with h; rw [h]; rfl
  · intro h
    have h2 : b[0].toNat = 48 := by omega
    have : b[0] = 48 := UInt8.toNat_inj.1 (h2.trans rfl)
    rw [this]
theorem last_48 (b : ByteArray) (h : 0 < b.size) : (decide (b.data.toList.getLast? = some 48) = true ↔ (((b[b.size - 1]'(by omega)).toNat : Nat) : Int) = 48) := by
  have hl : b.size - 1 < b.data.toList.length := by rw [bytes_len]; omega
  have e : b.data.toList.getLast? = some (b[b.size - 1]'(by omega)) := by
    rw [List.getLast?_eq_getElem?, bytes_len, List.getElem?_eq_getElem hl]; rfl
  rw [e, decide_eq_true_eq]
  constructor
  · intro h; injection h with h; rw [h]; rfl
  · intro h
    have h2 : (b[b.size - 1]'(by omega)).toNat = 48 := by omega
    have : (b[b.size - 1]'(by omega)) = 48 := UInt8.toNat_inj.1 (h2.trans rfl)
    rw [this]
theorem s48 (s : ByteArray) : decide (s.data.toList = [48]) = decide (s = ⟨#[48]⟩) := by
  rw [Bool.eq_iff_iff, decide_eq_true_eq, decide_eq_true_eq]
  exact ⟨fun h => ByteArray.ext (Array.ext' h), fun h => by rw [h]⟩
set_option maxRecDepth 100000 in
set_option maxHeartbeats 16000000 in
theorem rnum_any (s : ByteArray) (w : World) (hs : s.size ≤ 9223372036854775807) :
    Calls Tryz.prog 13 #[.string s] w fun e w' => e = .returned (.int .i64 (numE s.data.toList)) ∧ ∃ n, w' = w.drewN n := by
  have hsp := fun w => rsplit_any s w hs
  have hlh : (headB 46 s.data.toList).length ≤ s.size := by
    rw [← bytes_len s]; unfold headB; exact (List.takeWhile_sublist _).length_le
  have hlt : (tailB 46 s.data.toList).length ≤ s.size := by
    rw [← bytes_len s]; unfold tailB
    split
    · rw [List.length_drop]; have := (List.dropWhile_sublist (fun d : UInt8 => d != 46) (l := s.data.toList)).length_le; omega
    · exact Nat.zero_le _
  have hE : numE s.data.toList = numF (dgB (headB 46 s.data.toList)) (hasB 46 s.data.toList) (dgB (tailB 46 s.data.toList)) (headB 46 s.data.toList).length (tailB 46 s.data.toList).length (decide ((headB 46 s.data.toList).head? = some 48)) (decide ((tailB 46 s.data.toList).getLast? = some 48)) (decide (s.data.toList = [48])) := rfl
  obtain ⟨hb, hhb⟩ : ∃ hb : ByteArray, hb = ⟨(headB 46 s.data.toList).toArray⟩ := ⟨_, rfl⟩
  obtain ⟨tb, htb⟩ : ∃ tb : ByteArray, tb = ⟨(tailB 46 s.data.toList).toArray⟩ := ⟨_, rfl⟩
  have h1 : headB 46 s.data.toList = hb.data.toList := by rw [hhb]
  have h2 : tailB 46 s.data.toList = tb.data.toList := by rw [htb]
  rw [← hhb, ← htb] at hsp
  rw [h1, h2, bytes_len, bytes_len, s48] at hE
  rw [h1, bytes_len] at hlh
  rw [h2, bytes_len] at hlt
  have hdh := fun w => rdig_any hb w (by omega)
  have hdt := fun w => rdig_any tb w (by omega)
  have Hz := Lib.hid (show (s.toList == [48]) = decide (s = ⟨#[48]⟩) by
    have h := bytes_bq s ⟨#[48]⟩
    rw [show (⟨#[48]⟩ : ByteArray).toList = [48] from ByteArray.toList_eq _] at h
    exact h)
  have Hf := Lib.hid (fun h => first_48 hb h)
  have Hl := Lib.hid (fun h => last_48 tb h)
  have hm : dgB tb.data.toList = true → 0 < tb.size := fun h => by
    rcases Nat.eq_zero_or_pos tb.size with h0 | h0
    · rw [show tb.data.toList = [] from List.length_eq_zero_iff.1 (by rw [bytes_len]; exact h0)] at h; cases h
    · exact h0
  have Hm := Lib.hid hm
  have HTb := Lib.hid (show tb.size ≤ 9223372036854775807 by omega)
  generalize hasB 46 s.data.toList = P at *
  generalize dgB hb.data.toList = hd at *
  generalize dgB tb.data.toList = td at *
  generalize decide (hb.data.toList.head? = some 48) = f at *
  generalize decide (tb.data.toList.getLast? = some 48) = l at *
  generalize numE s.data.toList = E at *
  have HE := Lib.hid hE
  have HSp := Lib.hid hsp
  have HDh := Lib.hid hdh
  have HDt := Lib.hid hdt
  clear hsp hlh hlt hE hhb htb h1 h2 hdh hdt hm hs
  cases hd with
  | false =>
    have hE : E = 3 := num3 HE.out (Or.inl rfl)
    rw [hE]
    clear hE
    go_enter Tryz.func13, Tryz.ntmps13
    go_wp2_with (first | (go_at_call 32; refine (HSp.out _).mono ?_; rintro e w1 ⟨rfl, n1, rfl⟩) | (go_at_call 33; with_reducible refine (HDh.out _).mono ?_; rintro e w1 ⟨rfl, rfl⟩) | (go_at_call 33; with_reducible refine (HDt.out _).mono ?_; rintro e w1 ⟨rfl, rfl⟩))
    go_ret
    exact ⟨by first | rfl | simp, _, rfl⟩
  | true =>
    cases P with
    | true =>
      cases td with
      | false =>
        have hE : E = 3 := num3 HE.out (Or.inr (Or.inl ⟨rfl, rfl⟩))
        rw [hE]
        clear hE
        go_enter Tryz.func13, Tryz.ntmps13
        go_wp2_with (first | (go_at_call 32; refine (HSp.out _).mono ?_; rintro e w1 ⟨rfl, n1, rfl⟩) | (go_at_call 33; with_reducible refine (HDh.out _).mono ?_; rintro e w1 ⟨rfl, rfl⟩) | (go_at_call 33; with_reducible refine (HDt.out _).mono ?_; rintro e w1 ⟨rfl, rfl⟩))
        go_ret
        exact ⟨by first | rfl | simp, _, rfl⟩
      | true =>
        by_cases hn : 1 < hb.size
        case pos =>
          have gn : (1 : Int) < (hb.size : Int) := by omega
          have g0 : (0 : Int) < (hb.size : Int) := by omega
          have hn0 : 0 < hb.size := by omega
          have hf := Hf.out hn0
          cases f with
          | true =>
            have gf : ((hb[0].toNat : Nat) : Int) = 48 := hf.1 rfl
            have gfb : ((((hb[0].toNat : Nat) : Int)) == 48) = true := by simpa using gf
            have hE : E = 3 := num3 HE.out (Or.inr (Or.inr (Or.inl ⟨hn, rfl⟩)))
            rw [hE]
            clear hE
            clear hf
            clear hn
            go_enter Tryz.func13, Tryz.ntmps13
            go_wp2_with (first | (go_at_call 32; refine (HSp.out _).mono ?_; rintro e w1 ⟨rfl, n1, rfl⟩) | (go_at_call 33; with_reducible refine (HDh.out _).mono ?_; rintro e w1 ⟨rfl, rfl⟩) | (go_at_call 33; with_reducible refine (HDt.out _).mono ?_; rintro e w1 ⟨rfl, rfl⟩))
            go_ret
            exact ⟨by first | rfl | simp, _, rfl⟩
          | false =>
            have gf : ¬ ((hb[0].toNat : Nat) : Int) = 48 := fun h => by have := hf.2 h; cases this
            have gfb : ((((hb[0].toNat : Nat) : Int)) == 48) = false := by simpa using gf
            have gm : 0 < tb.size := Hm.out rfl
            have gmx : tb.size - 1 < tb.size := by omega
            have m0 : (0 : Int) ≤ (tb.size : Int) - 1 := by omega
            have m1 : (tb.size : Int) - 1 < (tb.size : Int) := by omega
            have mw : IntKind.i64.wrap ((tb.size : Int) - 1) = (tb.size : Int) - 1 := IntWalk.i64_in _ (by have := HTb.out; omega)
            have ml : ((tb.size : Int) - 1).toNat = tb.size - 1 := by omega
            have hl := Hl.out gm
            cases l with
            | true =>
              have gl : (((tb[tb.size - 1]'gmx).toNat : Nat) : Int) = 48 := hl.1 rfl
              have glb : ((((tb[tb.size - 1]'gmx).toNat : Nat) : Int) == 48) = true := by simpa using gl
              have hE : E = 3 := num3 HE.out (Or.inr (Or.inr (Or.inr ⟨rfl, rfl⟩)))
              rw [hE]
              clear hE
              clear hf
              clear hl
              clear hn
              go_enter Tryz.func13, Tryz.ntmps13
              go_wp2_with (first | (go_at_call 32; refine (HSp.out _).mono ?_; rintro e w1 ⟨rfl, n1, rfl⟩) | (go_at_call 33; with_reducible refine (HDh.out _).mono ?_; rintro e w1 ⟨rfl, rfl⟩) | (go_at_call 33; with_reducible refine (HDt.out _).mono ?_; rintro e w1 ⟨rfl, rfl⟩))
              go_ret
              exact ⟨by first | rfl | simp, _, rfl⟩
            | false =>
              have gl : ¬ (((tb[tb.size - 1]'gmx).toNat : Nat) : Int) = 48 := fun h => by have := hl.2 h; cases this
              have glb : ((((tb[tb.size - 1]'gmx).toNat : Nat) : Int) == 48) = false := by simpa using gl
              by_cases hz : s = ⟨#[48]⟩
              case pos =>
                have hq := Hz.out
                rw [decide_eq_true hz] at hq
                have hq2 : s.toList = [48] := by simpa using hq
                have hE : E = 2 := num2 HE.out ⟨rfl, (fun h => by cases h.2), (fun h => by cases h.2), (fun h => by cases h.2)⟩ (Or.inl (decide_eq_true hz))
                rw [hE]
                clear hE
                clear hz
                clear hf
                clear hl
                clear hn
                go_enter Tryz.func13, Tryz.ntmps13
                go_wp2_with (first | (go_at_call 32; refine (HSp.out _).mono ?_; rintro e w1 ⟨rfl, n1, rfl⟩) | (go_at_call 33; with_reducible refine (HDh.out _).mono ?_; rintro e w1 ⟨rfl, rfl⟩) | (go_at_call 33; with_reducible refine (HDt.out _).mono ?_; rintro e w1 ⟨rfl, rfl⟩))
                go_ret
                exact ⟨by first | rfl | simp, _, rfl⟩
              case neg =>
                have hq := Hz.out
                rw [decide_eq_false hz] at hq
                have hq2 : ¬ s.toList = [48] := by simpa using hq
                by_cases h4 : 4 < hb.size
                case pos =>
                  have g4 : (4 : Int) < (hb.size : Int) := by omega
                  have hE : E = 2 := num2 HE.out ⟨rfl, (fun h => by cases h.2), (fun h => by cases h.2), (fun h => by cases h.2)⟩ (Or.inr (Or.inl h4))
                  rw [hE]
                  clear hE
                  clear hz
                  clear h4
                  clear hf
                  clear hl
                  clear hn
                  go_enter Tryz.func13, Tryz.ntmps13
                  go_wp2_with (first | (go_at_call 32; refine (HSp.out _).mono ?_; rintro e w1 ⟨rfl, n1, rfl⟩) | (go_at_call 33; with_reducible refine (HDh.out _).mono ?_; rintro e w1 ⟨rfl, rfl⟩) | (go_at_call 33; with_reducible refine (HDt.out _).mono ?_; rintro e w1 ⟨rfl, rfl⟩))
                  go_ret
                  exact ⟨by first | rfl | simp, _, rfl⟩
                case neg =>
                  have g4 : ¬ (4 : Int) < (hb.size : Int) := by omega
                  by_cases h3 : 3 < tb.size
                  case pos =>
                    have g3 : (3 : Int) < (tb.size : Int) := by omega
                    have hE : E = 2 := num2 HE.out ⟨rfl, (fun h => by cases h.2), (fun h => by cases h.2), (fun h => by cases h.2)⟩ (Or.inr (Or.inr h3))
                    rw [hE]
                    clear hE
                    clear hz
                    clear h4
                    clear h3
                    clear hf
                    clear hl
                    clear hn
                    go_enter Tryz.func13, Tryz.ntmps13
                    go_wp2_with (first | (go_at_call 32; refine (HSp.out _).mono ?_; rintro e w1 ⟨rfl, n1, rfl⟩) | (go_at_call 33; with_reducible refine (HDh.out _).mono ?_; rintro e w1 ⟨rfl, rfl⟩) | (go_at_call 33; with_reducible refine (HDt.out _).mono ?_; rintro e w1 ⟨rfl, rfl⟩))
                    go_ret
                    exact ⟨by first | rfl | simp, _, rfl⟩
                  case neg =>
                    have g3 : ¬ (3 : Int) < (tb.size : Int) := by omega
                    have hE : E = 0 := num0 HE.out ⟨rfl, (fun h => by cases h.2), (fun h => by cases h.2), (fun h => by cases h.2)⟩ ⟨decide_eq_false hz, h4, h3⟩
                    rw [hE]
                    clear hE
                    clear hz
                    clear h4
                    clear h3
                    clear hf
                    clear hl
                    clear hn
                    go_enter Tryz.func13, Tryz.ntmps13
                    go_wp2_with (first | (go_at_call 32; refine (HSp.out _).mono ?_; rintro e w1 ⟨rfl, n1, rfl⟩) | (go_at_call 33; with_reducible refine (HDh.out _).mono ?_; rintro e w1 ⟨rfl, rfl⟩) | (go_at_call 33; with_reducible refine (HDt.out _).mono ?_; rintro e w1 ⟨rfl, rfl⟩))
                    go_ret
                    exact ⟨by first | rfl | simp, _, rfl⟩
        case neg =>
          have gn : ¬ (1 : Int) < (hb.size : Int) := by omega
          have gm : 0 < tb.size := Hm.out rfl
          have gmx : tb.size - 1 < tb.size := by omega
          have m0 : (0 : Int) ≤ (tb.size : Int) - 1 := by omega
          have m1 : (tb.size : Int) - 1 < (tb.size : Int) := by omega
          have mw : IntKind.i64.wrap ((tb.size : Int) - 1) = (tb.size : Int) - 1 := IntWalk.i64_in _ (by have := HTb.out; omega)
          have ml : ((tb.size : Int) - 1).toNat = tb.size - 1 := by omega
          have hl := Hl.out gm
          cases l with
          | true =>
            have gl : (((tb[tb.size - 1]'gmx).toNat : Nat) : Int) = 48 := hl.1 rfl
            have glb : ((((tb[tb.size - 1]'gmx).toNat : Nat) : Int) == 48) = true := by simpa using gl
            have hE : E = 3 := num3 HE.out (Or.inr (Or.inr (Or.inr ⟨rfl, rfl⟩)))
            rw [hE]
            clear hE
            clear hl
            clear hn
            go_enter Tryz.func13, Tryz.ntmps13
            go_wp2_with (first | (go_at_call 32; refine (HSp.out _).mono ?_; rintro e w1 ⟨rfl, n1, rfl⟩) | (go_at_call 33; with_reducible refine (HDh.out _).mono ?_; rintro e w1 ⟨rfl, rfl⟩) | (go_at_call 33; with_reducible refine (HDt.out _).mono ?_; rintro e w1 ⟨rfl, rfl⟩))
            go_ret
            exact ⟨by first | rfl | simp, _, rfl⟩
          | false =>
            have gl : ¬ (((tb[tb.size - 1]'gmx).toNat : Nat) : Int) = 48 := fun h => by have := hl.2 h; cases this
            have glb : ((((tb[tb.size - 1]'gmx).toNat : Nat) : Int) == 48) = false := by simpa using gl
            by_cases hz : s = ⟨#[48]⟩
            case pos =>
              have hq := Hz.out
              rw [decide_eq_true hz] at hq
              have hq2 : s.toList = [48] := by simpa using hq
              have hE : E = 2 := num2 HE.out ⟨rfl, (fun h => by cases h.2), (fun h => hn h.1), (fun h => by cases h.2)⟩ (Or.inl (decide_eq_true hz))
              rw [hE]
              clear hE
              clear hz
              clear hl
              clear hn
              go_enter Tryz.func13, Tryz.ntmps13
              go_wp2_with (first | (go_at_call 32; refine (HSp.out _).mono ?_; rintro e w1 ⟨rfl, n1, rfl⟩) | (go_at_call 33; with_reducible refine (HDh.out _).mono ?_; rintro e w1 ⟨rfl, rfl⟩) | (go_at_call 33; with_reducible refine (HDt.out _).mono ?_; rintro e w1 ⟨rfl, rfl⟩))
              go_ret
              exact ⟨by first | rfl | simp, _, rfl⟩
            case neg =>
              have hq := Hz.out
              rw [decide_eq_false hz] at hq
              have hq2 : ¬ s.toList = [48] := by simpa using hq
              by_cases h4 : 4 < hb.size
              case pos =>
                exact absurd h4 (by omega)
              case neg =>
                have g4 : ¬ (4 : Int) < (hb.size : Int) := by omega
                by_cases h3 : 3 < tb.size
                case pos =>
                  have g3 : (3 : Int) < (tb.size : Int) := by omega
                  have hE : E = 2 := num2 HE.out ⟨rfl, (fun h => by cases h.2), (fun h => hn h.1), (fun h => by cases h.2)⟩ (Or.inr (Or.inr h3))
                  rw [hE]
                  clear hE
                  clear hz
                  clear h4
                  clear h3
                  clear hl
                  clear hn
                  go_enter Tryz.func13, Tryz.ntmps13
                  go_wp2_with (first | (go_at_call 32; refine (HSp.out _).mono ?_; rintro e w1 ⟨rfl, n1, rfl⟩) | (go_at_call 33; with_reducible refine (HDh.out _).mono ?_; rintro e w1 ⟨rfl, rfl⟩) | (go_at_call 33; with_reducible refine (HDt.out _).mono ?_; rintro e w1 ⟨rfl, rfl⟩))
                  go_ret
                  exact ⟨by first | rfl | simp, _, rfl⟩
                case neg =>
                  have g3 : ¬ (3 : Int) < (tb.size : Int) := by omega
                  have hE : E = 0 := num0 HE.out ⟨rfl, (fun h => by cases h.2), (fun h => hn h.1), (fun h => by cases h.2)⟩ ⟨decide_eq_false hz, h4, h3⟩
                  rw [hE]
                  clear hE
                  clear hz
                  clear h4
                  clear h3
                  clear hl
                  clear hn
                  go_enter Tryz.func13, Tryz.ntmps13
                  go_wp2_with (first | (go_at_call 32; refine (HSp.out _).mono ?_; rintro e w1 ⟨rfl, n1, rfl⟩) | (go_at_call 33; with_reducible refine (HDh.out _).mono ?_; rintro e w1 ⟨rfl, rfl⟩) | (go_at_call 33; with_reducible refine (HDt.out _).mono ?_; rintro e w1 ⟨rfl, rfl⟩))
                  go_ret
                  exact ⟨by first | rfl | simp, _, rfl⟩
    | false =>
      by_cases hn : 1 < hb.size
      case pos =>
        have gn : (1 : Int) < (hb.size : Int) := by omega
        have g0 : (0 : Int) < (hb.size : Int) := by omega
        have hn0 : 0 < hb.size := by omega
        have hf := Hf.out hn0
        cases f with
        | true =>
          have gf : ((hb[0].toNat : Nat) : Int) = 48 := hf.1 rfl
          have gfb : ((((hb[0].toNat : Nat) : Int)) == 48) = true := by simpa using gf
          have hE : E = 3 := num3 HE.out (Or.inr (Or.inr (Or.inl ⟨hn, rfl⟩)))
          rw [hE]
          clear hE
          clear hf
          clear hn
          go_enter Tryz.func13, Tryz.ntmps13
          go_wp2_with (first | (go_at_call 32; refine (HSp.out _).mono ?_; rintro e w1 ⟨rfl, n1, rfl⟩) | (go_at_call 33; with_reducible refine (HDh.out _).mono ?_; rintro e w1 ⟨rfl, rfl⟩) | (go_at_call 33; with_reducible refine (HDt.out _).mono ?_; rintro e w1 ⟨rfl, rfl⟩))
          go_ret
          exact ⟨by first | rfl | simp, _, rfl⟩
        | false =>
          have gf : ¬ ((hb[0].toNat : Nat) : Int) = 48 := fun h => by have := hf.2 h; cases this
          have gfb : ((((hb[0].toNat : Nat) : Int)) == 48) = false := by simpa using gf
          by_cases hz : s = ⟨#[48]⟩
          case pos =>
            have hq := Hz.out
            rw [decide_eq_true hz] at hq
            have hq2 : s.toList = [48] := by simpa using hq
            have hE : E = 2 := num2 HE.out ⟨rfl, (fun h => by cases h.1), (fun h => by cases h.2), (fun h => by cases h.1)⟩ (Or.inl (decide_eq_true hz))
            rw [hE]
            clear hE
            clear hz
            clear hf
            clear hn
            go_enter Tryz.func13, Tryz.ntmps13
            go_wp2_with (first | (go_at_call 32; refine (HSp.out _).mono ?_; rintro e w1 ⟨rfl, n1, rfl⟩) | (go_at_call 33; with_reducible refine (HDh.out _).mono ?_; rintro e w1 ⟨rfl, rfl⟩) | (go_at_call 33; with_reducible refine (HDt.out _).mono ?_; rintro e w1 ⟨rfl, rfl⟩))
            go_ret
            exact ⟨by first | rfl | simp, _, rfl⟩
          case neg =>
            have hq := Hz.out
            rw [decide_eq_false hz] at hq
            have hq2 : ¬ s.toList = [48] := by simpa using hq
            by_cases h4 : 4 < hb.size
            case pos =>
              have g4 : (4 : Int) < (hb.size : Int) := by omega
              have hE : E = 2 := num2 HE.out ⟨rfl, (fun h => by cases h.1), (fun h => by cases h.2), (fun h => by cases h.1)⟩ (Or.inr (Or.inl h4))
              rw [hE]
              clear hE
              clear hz
              clear h4
              clear hf
              clear hn
              go_enter Tryz.func13, Tryz.ntmps13
              go_wp2_with (first | (go_at_call 32; refine (HSp.out _).mono ?_; rintro e w1 ⟨rfl, n1, rfl⟩) | (go_at_call 33; with_reducible refine (HDh.out _).mono ?_; rintro e w1 ⟨rfl, rfl⟩) | (go_at_call 33; with_reducible refine (HDt.out _).mono ?_; rintro e w1 ⟨rfl, rfl⟩))
              go_ret
              exact ⟨by first | rfl | simp, _, rfl⟩
            case neg =>
              have g4 : ¬ (4 : Int) < (hb.size : Int) := by omega
              by_cases h3 : 3 < tb.size
              case pos =>
                have g3 : (3 : Int) < (tb.size : Int) := by omega
                have hE : E = 2 := num2 HE.out ⟨rfl, (fun h => by cases h.1), (fun h => by cases h.2), (fun h => by cases h.1)⟩ (Or.inr (Or.inr h3))
                rw [hE]
                clear hE
                clear hz
                clear h4
                clear h3
                clear hf
                clear hn
                go_enter Tryz.func13, Tryz.ntmps13
                go_wp2_with (first | (go_at_call 32; refine (HSp.out _).mono ?_; rintro e w1 ⟨rfl, n1, rfl⟩) | (go_at_call 33; with_reducible refine (HDh.out _).mono ?_; rintro e w1 ⟨rfl, rfl⟩) | (go_at_call 33; with_reducible refine (HDt.out _).mono ?_; rintro e w1 ⟨rfl, rfl⟩))
                go_ret
                exact ⟨by first | rfl | simp, _, rfl⟩
              case neg =>
                have g3 : ¬ (3 : Int) < (tb.size : Int) := by omega
                have hE : E = 0 := num0 HE.out ⟨rfl, (fun h => by cases h.1), (fun h => by cases h.2), (fun h => by cases h.1)⟩ ⟨decide_eq_false hz, h4, h3⟩
                rw [hE]
                clear hE
                clear hz
                clear h4
                clear h3
                clear hf
                clear hn
                go_enter Tryz.func13, Tryz.ntmps13
                go_wp2_with (first | (go_at_call 32; refine (HSp.out _).mono ?_; rintro e w1 ⟨rfl, n1, rfl⟩) | (go_at_call 33; with_reducible refine (HDh.out _).mono ?_; rintro e w1 ⟨rfl, rfl⟩) | (go_at_call 33; with_reducible refine (HDt.out _).mono ?_; rintro e w1 ⟨rfl, rfl⟩))
                go_ret
                exact ⟨by first | rfl | simp, _, rfl⟩
      case neg =>
        have gn : ¬ (1 : Int) < (hb.size : Int) := by omega
        by_cases hz : s = ⟨#[48]⟩
        case pos =>
          have hq := Hz.out
          rw [decide_eq_true hz] at hq
          have hq2 : s.toList = [48] := by simpa using hq
          have hE : E = 2 := num2 HE.out ⟨rfl, (fun h => by cases h.1), (fun h => hn h.1), (fun h => by cases h.1)⟩ (Or.inl (decide_eq_true hz))
          rw [hE]
          clear hE
          clear hz
          clear hn
          go_enter Tryz.func13, Tryz.ntmps13
          go_wp2_with (first | (go_at_call 32; refine (HSp.out _).mono ?_; rintro e w1 ⟨rfl, n1, rfl⟩) | (go_at_call 33; with_reducible refine (HDh.out _).mono ?_; rintro e w1 ⟨rfl, rfl⟩) | (go_at_call 33; with_reducible refine (HDt.out _).mono ?_; rintro e w1 ⟨rfl, rfl⟩))
          go_ret
          exact ⟨by first | rfl | simp, _, rfl⟩
        case neg =>
          have hq := Hz.out
          rw [decide_eq_false hz] at hq
          have hq2 : ¬ s.toList = [48] := by simpa using hq
          by_cases h4 : 4 < hb.size
          case pos =>
            exact absurd h4 (by omega)
          case neg =>
            have g4 : ¬ (4 : Int) < (hb.size : Int) := by omega
            by_cases h3 : 3 < tb.size
            case pos =>
              have g3 : (3 : Int) < (tb.size : Int) := by omega
              have hE : E = 2 := num2 HE.out ⟨rfl, (fun h => by cases h.1), (fun h => hn h.1), (fun h => by cases h.1)⟩ (Or.inr (Or.inr h3))
              rw [hE]
              clear hE
              clear hz
              clear h4
              clear h3
              clear hn
              go_enter Tryz.func13, Tryz.ntmps13
              go_wp2_with (first | (go_at_call 32; refine (HSp.out _).mono ?_; rintro e w1 ⟨rfl, n1, rfl⟩) | (go_at_call 33; with_reducible refine (HDh.out _).mono ?_; rintro e w1 ⟨rfl, rfl⟩) | (go_at_call 33; with_reducible refine (HDt.out _).mono ?_; rintro e w1 ⟨rfl, rfl⟩))
              go_ret
              exact ⟨by first | rfl | simp, _, rfl⟩
            case neg =>
              have g3 : ¬ (3 : Int) < (tb.size : Int) := by omega
              have hE : E = 0 := num0 HE.out ⟨rfl, (fun h => by cases h.1), (fun h => hn h.1), (fun h => by cases h.1)⟩ ⟨decide_eq_false hz, h4, h3⟩
              rw [hE]
              clear hE
              clear hz
              clear h4
              clear h3
              clear hn
              go_enter Tryz.func13, Tryz.ntmps13
              go_wp2_with (first | (go_at_call 32; refine (HSp.out _).mono ?_; rintro e w1 ⟨rfl, n1, rfl⟩) | (go_at_call 33; with_reducible refine (HDh.out _).mono ?_; rintro e w1 ⟨rfl, rfl⟩) | (go_at_call 33; with_reducible refine (HDt.out _).mono ?_; rintro e w1 ⟨rfl, rfl⟩))
              go_ret
              exact ⟨by first | rfl | simp, _, rfl⟩
end Go.Proofs.YtbhkfemebionnaaGreatDoor

namespace Go.Proofs.YtbhkfemebionnaaGreatDoor
open Go.RowKit

set_option maxHeartbeats 2000000 in
theorem nc1_any (B : Nat) (hb : ByteArray) (w : World) (c0 : w.cell? ⟨B, 0, none⟩ = some (.string hb)) :
    Calls Tryz.prog 72 #[.pointer (some ⟨B, 0, none⟩)] w fun e w' => e = .returned (.bool (dgB hb.data.toList)) ∧ Below w.heap.size w w' := by
  have HD := Lib.hid (fun w => ndig_any hb w)
  go_enter Tryz.func72, Tryz.ntmps72
  go_wp2_with fail
  refine (HD.out _).mono ?_
  rintro e w1 ⟨rfl, hb⟩
  go_wp2_with fail
  go_ret
  exact ⟨rfl, hb⟩
theorem suf_48 (b : ByteArray) : Lib.hasSuffix b.data.toList [48] = decide (b.data.toList.getLast? = some 48) := by
  generalize b.data.toList = l
  unfold Lib.hasSuffix
  rw [Bool.eq_iff_iff, decide_eq_true_eq, List.isSuffixOf_iff_suffix]
  constructor
  · rintro ⟨t, rfl⟩; simp
  · intro h
    obtain ⟨t, rfl⟩ : ∃ t, l = t ++ [48] := by
      rcases List.eq_nil_or_concat l with rfl | ⟨t, c, rfl⟩
      · cases h
      · rw [List.concat_eq_append] at h ⊢
        rw [List.getLast?_append] at h
        simp at h
        exact ⟨t, by rw [h]⟩
    exact List.suffix_append _ _
set_option maxHeartbeats 2000000 in
theorem nc2_any (B : Nat) (tb : ByteArray) (P : Bool) (w : World) (c1 : w.cell? ⟨B, 1, none⟩ = some (.string tb)) (c2 : w.cell? ⟨B, 2, none⟩ = some (.bool P)) (bl : B < w.heap.size) (hs : tb.size ≤ 9223372036854775807) :
    Calls Tryz.prog 74 #[.pointer (some ⟨B, 0, none⟩)] w fun e w' => e = .returned (.bool (!P || (dgB tb.data.toList && !decide (tb.data.toList.getLast? = some 48)))) ∧ Below w.heap.size w w' := by
  have HD := Lib.hid (fun w => ndig_any tb w)
  have HS := Lib.hid (show ∀ w, Calls Tryz.prog 75 #[.string tb, .string ⟨#[48]⟩] w fun e w' => e = .returned (.bool (decide (tb.data.toList.getLast? = some 48))) ∧ w' = w from fun w => by
    have h := Tryz.strings_HasSuffix tb ⟨#[48]⟩ w hs
    rw [show (⟨#[48]⟩ : ByteArray).data.toList = [48] from rfl, suf_48] at h
    exact h)
  have HC := Lib.hid (fun (w' : World) (h : Below w.heap.size w w') => (h.cell (p := ⟨B, 1, none⟩) bl).trans c1)
  generalize decide (tb.data.toList.getLast? = some 48) = l at *
  generalize dgB tb.data.toList = d at *
  clear hs
  cases P with
  | false =>
    go_enter Tryz.func74, Tryz.ntmps74
    go_wp2_with fail
    go_ret
    exact ⟨rfl, Below.refl _ _⟩
  | true =>
    cases d with
    | false =>
      go_enter Tryz.func74, Tryz.ntmps74
      go_wp2_with (go_at_call 73; with_reducible refine (HD.out _).mono ?_; rintro e w1 ⟨rfl, hb⟩)
      go_ret
      exact ⟨rfl, hb⟩
    | true =>
      go_enter Tryz.func74, Tryz.ntmps74
      go_wp2_with (first | (go_at_call 73; with_reducible refine (HD.out _).mono ?_; rintro e w1 ⟨rfl, hb⟩; have c1 := HC.out _ hb; have hbl := Nat.lt_of_lt_of_le bl hb.size) | (go_at_call 75; with_reducible refine (HS.out _).mono ?_; rintro e w2 ⟨rfl, rfl⟩))
      go_ret
      exact ⟨by cases l <;> rfl, hb⟩
set_option maxHeartbeats 2000000 in
theorem nc3_any (B : Nat) (hb : ByteArray) (w : World) (c0 : w.cell? ⟨B, 0, none⟩ = some (.string hb)) (h0 : 0 < hb.size) :
    Calls Tryz.prog 76 #[.pointer (some ⟨B, 0, none⟩)] w fun e w' => e = .returned (.bool (!(decide (1 < hb.size) && decide (hb.data.toList.head? = some 48)))) ∧ w' = w := by
  have hf := first_48 hb h0
  generalize decide (hb.data.toList.head? = some 48) = f at *
  have g0 : (0 : Int) < (hb.size : Int) := by omega
  by_cases h1 : hb.size = 1
  · have g1 : (hb.size : Int) = 1 := by omega
    have HV := Lib.hid (show decide (1 < hb.size) = false from decide_eq_false (by omega))
    clear hf h1
    go_enter Tryz.func76, Tryz.ntmps76
    go_wp2_with fail
    go_ret
    exact ⟨by rw [HV.out]; rfl, rfl⟩
  · have g1 : ¬ (hb.size : Int) = 1 := by omega
    have g1b : ((hb.size : Int) == 1) = false := by simpa using g1
    have HV := Lib.hid (show decide (1 < hb.size) = true from decide_eq_true (by omega))
    cases f with
    | true =>
      have gf := hf.1 rfl
      have gb : (((hb[0].toNat : Nat) : Int) == 48) = true := by simpa using gf
      have gc : (((hb[0].toNat : Nat) : Int) != 48) = false := by simpa using gf
      clear hf h1
      go_enter Tryz.func76, Tryz.ntmps76
      go_wp2_with fail
      go_ret
      exact ⟨by rw [HV.out]; rfl, rfl⟩
    | false =>
      have gf : ¬ ((hb[0].toNat : Nat) : Int) = 48 := fun h => by have := hf.2 h; cases this
      have gb : (((hb[0].toNat : Nat) : Int) == 48) = false := by simpa using gf
      have gc : (((hb[0].toNat : Nat) : Int) != 48) = true := by simpa using gf
      clear hf h1
      go_enter Tryz.func76, Tryz.ntmps76
      go_wp2_with fail
      go_ret
      exact ⟨by rw [HV.out]; rfl, rfl⟩
set_option maxRecDepth 100000 in
set_option maxHeartbeats 16000000 in
theorem nchk_any (s : ByteArray) (w : World) (hs : s.size ≤ 9223372036854775807) :
    Calls Tryz.prog 48 #[.string s] w fun e w' => e = .returned (.int .i64 (numE s.data.toList)) ∧ Below w.heap.size w w' := by
  have hlh : (headB 46 s.data.toList).length ≤ s.size := by
    rw [← bytes_len s]; unfold headB; exact (List.takeWhile_sublist _).length_le
  have hlt : (tailB 46 s.data.toList).length ≤ s.size := by
    rw [← bytes_len s]; unfold tailB
    split
    · rw [List.length_drop]; have := (List.dropWhile_sublist (fun d : UInt8 => d != 46) (l := s.data.toList)).length_le; omega
    · exact Nat.zero_le _
  have hE : numE s.data.toList = numF (dgB (headB 46 s.data.toList)) (hasB 46 s.data.toList) (dgB (tailB 46 s.data.toList)) (headB 46 s.data.toList).length (tailB 46 s.data.toList).length (decide ((headB 46 s.data.toList).head? = some 48)) (decide ((tailB 46 s.data.toList).getLast? = some 48)) (decide (s.data.toList = [48])) := rfl
  have hsp := fun w => scutd_any s w (by omega)
  obtain ⟨hb, hhb⟩ : ∃ hb : ByteArray, hb = ⟨(headB 46 s.data.toList).toArray⟩ := ⟨_, rfl⟩
  obtain ⟨tb, htb⟩ : ∃ tb : ByteArray, tb = ⟨(tailB 46 s.data.toList).toArray⟩ := ⟨_, rfl⟩
  have h1 : headB 46 s.data.toList = hb.data.toList := by rw [hhb]
  have h2 : tailB 46 s.data.toList = tb.data.toList := by rw [htb]
  rw [← hhb, ← htb] at hsp
  rw [h1, h2, bytes_len, bytes_len, s48] at hE
  rw [h1, bytes_len] at hlh
  rw [h2, bytes_len] at hlt
  have Hz := Lib.hid (show (s.toList == [48]) = decide (s = ⟨#[48]⟩) by
    have h := bytes_bq s ⟨#[48]⟩
    rw [show (⟨#[48]⟩ : ByteArray).toList = [48] from ByteArray.toList_eq _] at h
    exact h)
  have HTb := Lib.hid (show tb.size ≤ 9223372036854775807 by omega)
  have hm : dgB hb.data.toList = true → 0 < hb.size := fun h => by
    rcases Nat.eq_zero_or_pos hb.size with h0 | h0
    · rw [show hb.data.toList = [] from List.length_eq_zero_iff.1 (by rw [bytes_len]; exact h0)] at h; cases h
    · exact h0
  have HM := Lib.hid hm
  generalize hasB 46 s.data.toList = P at *
  generalize numE s.data.toList = E at *
  have HE := Lib.hid hE
  have HSp := Lib.hid hsp
  clear hsp hlh hlt hE hhb htb h1 h2 hs hm
  obtain ⟨W, hW⟩ : ∃ W, W = w.alloc (.cells #[.string ⟨#[]⟩, .string ⟨#[]⟩, .bool false] 114) := ⟨_, rfl⟩
  have hB0 : Below w.heap.size w W := by rw [hW]; exact (Below.refl _ _).alloc (Nat.le_refl _) _
  have hc0 : Cells W w.heap.size [.string ⟨#[]⟩, .string ⟨#[]⟩, .bool false] := by rw [hW]; exact Cells.fresh w [.string ⟨#[]⟩, .string ⟨#[]⟩, .bool false] _
  have e72 := enters_of Tryz.func72 (by kernel_rfl) rfl
  have e74 := enters_of Tryz.func74 (by kernel_rfl) rfl
  have e76 := enters_of Tryz.func76 (by kernel_rfl) rfl
  have HW := Lib.hid hW
  have HB0 := Lib.hid hB0
  have HC0 := Lib.hid hc0
  clear hW hB0 hc0
  have hmf : ∀ (fn : Fn) (first cap : Array Value) (w : World), (Instr.makeFunc fn first cap).run Tryz.prog w = .ok (.func fn first cap) w := fun _ _ _ _ => rfl
  go_enter Tryz.func48, Tryz.ntmps48
  go_wp2_with fail
  rw [← HW.out]
  refine (HSp.out _).mono ?_
  rintro e w1 ⟨rfl, n1, rfl⟩
  obtain ⟨V, hV⟩ : ∃ V, V = W.drewN n1 := ⟨_, rfl⟩
  have hBV : Below w.heap.size w V := by rw [hV]; exact below_drewN HB0.out n1
  have hcV : Cells V w.heap.size [.string ⟨#[]⟩, .string ⟨#[]⟩, .bool false] := by rw [hV]; exact HC0.out.below (below_drewN (Below.refl W.heap.size W) n1) HC0.out.1
  rw [← hV]
  clear hV
  obtain ⟨W2, hW2⟩ : ∃ W2, W2 = ((V.setCell ⟨w.heap.size, 0, none⟩ (.string hb)).setCell ⟨w.heap.size, 1, none⟩ (.string tb)).setCell ⟨w.heap.size, 2, none⟩ (.bool P) := ⟨_, rfl⟩
  have hB2 : Below w.heap.size w W2 := by rw [hW2]; exact ((hBV.setCell (p := ⟨w.heap.size, 0, none⟩) (Nat.le_refl _) _).setCell (p := ⟨w.heap.size, 1, none⟩) (Nat.le_refl _) _).setCell (p := ⟨w.heap.size, 2, none⟩) (Nat.le_refl _) _
  have hc2 : Cells W2 w.heap.size [.string hb, .string tb, .bool P] := by rw [hW2]; exact ((hcV.set 0 (.string hb) (by simp)).set 1 (.string tb) (by simp)).set 2 (.bool P) (by simp)
  obtain ⟨W3, hW3⟩ : ∃ W3, W3 = W2.alloc (.cells #[.func (.func 72) #[] #[.pointer (some ⟨w.heap.size, 0, none⟩)], .func (.func 74) #[] #[.pointer (some ⟨w.heap.size, 0, none⟩)], .func (.func 76) #[] #[.pointer (some ⟨w.heap.size, 0, none⟩)]] 28) := ⟨_, rfl⟩
  have hb3 : Below W2.heap.size W2 W3 := by rw [hW3]; exact (Below.refl _ _).alloc (Nat.le_refl _) _
  have HF3 := Lib.hid (show Cells W3 W2.heap.size [.func (.func 72) #[] #[.pointer (some ⟨w.heap.size, 0, none⟩)], .func (.func 74) #[] #[.pointer (some ⟨w.heap.size, 0, none⟩)], .func (.func 76) #[] #[.pointer (some ⟨w.heap.size, 0, none⟩)]] by rw [hW3]; exact Cells.fresh W2 [.func (.func 72) #[] #[.pointer (some ⟨w.heap.size, 0, none⟩)], .func (.func 74) #[] #[.pointer (some ⟨w.heap.size, 0, none⟩)], .func (.func 76) #[] #[.pointer (some ⟨w.heap.size, 0, none⟩)]] _)
  have HB3 := Lib.hid (hB2.trans (hb3.mono hB2.size))
  have HC3 := Lib.hid (hc2.below hb3 hc2.1)
  have z0 := hcV.at_ (j := 0) rfl
  have z1 := hcV.at_ (j := 1) rfl
  have z2 := hcV.at_ (j := 2) rfl
  have f0 := hcV.fr (j := 0) rfl
  have f1 := hcV.fr (j := 1) rfl
  have f2 := hcV.fr (j := 2) rfl
  have lz := hcV.1
  have hs2 : W2.heap.size = V.heap.size := by rw [hW2]; simp
  have HW2 := Lib.hid hW2
  have HW3 := Lib.hid hW3
  clear hBV hcV hW2 hB2 hc2 hW3 hb3
  go_wp2_with fail
  rw [← HW2.out, ← HW3.out]
  clear z0 z1 z2 f0 f1 f2 lz hmf
  rw [hs2] at HF3
  clear hs2 HW2 HW3
  go_loopw [22] (fun iv wr => ∃ k : Nat, k ≤ 3 ∧ iv = .int .i64 k ∧ Below W3.heap.size W3 wr ∧ (1 ≤ k → dgB hb.data.toList = true) ∧ (2 ≤ k → (!P || (dgB tb.data.toList && !decide (tb.data.toList.getLast? = some 48))) = true) ∧ (3 ≤ k → (!(decide (1 < hb.size) && decide (hb.data.toList.head? = some 48))) = true)) (fun iv _ => 3 - (intOf iv).toNat)
  case atStart => exact ⟨0, by omega, rfl, Below.refl _ _, fun h => absurd h (by omega), fun h => absurd h (by omega), fun h => absurd h (by omega)⟩
  case round =>
    obtain ⟨k, hk, rfl, hB, hh⟩ := hrel
    obtain rfl | rfl | rfl | rfl : k = 0 ∨ k = 1 ∨ k = 2 ∨ k = 3 := by omega
    · have d0 := (hB.cell (p := ⟨V.heap.size, 0, none⟩) HF3.out.1).trans (HF3.out.at_ (j := 0) rfl)
      have hbw := Nat.lt_of_lt_of_le HF3.out.1 hB.size
      have HC := Lib.hid (HC3.out.below hB HC3.out.1)
      have hcl := nc1_any w.heap.size hb wr (HC.out.at_ (j := 0) rfl)
      have HBk := Lib.hid hB
      clear hh
      cases hv : dgB hb.data.toList
      · rw [hv] at hcl
        have hE : E = 3 := num3 HE.out (Or.inl hv)
        have HEq := Lib.hid hE
        clear hE hB
        go_wp2_with (go_at_call 72; with_reducible refine hcl.mono ?_; rintro e w7 ⟨rfl, hb7⟩)
        go_ret
        exact ⟨by rw [HEq.out]; rfl, HB3.out.trans ((HBk.out.trans (hb7.mono HBk.out.size)).mono HB3.out.size)⟩
      · rw [hv] at hcl
        clear hB
        go_wp2_with (go_at_call 72; with_reducible refine hcl.mono ?_; rintro e w7 ⟨rfl, hb7⟩)
        go_roundw
        case rel => exact ⟨1, by omega, by go_num, HBk.out.trans (hb7.mono HBk.out.size), fun _ => by first | exact hv | trivial, fun h => absurd h (by omega), fun h => absurd h (by omega)⟩
        case measure => simp [intOf]
    · have d0 := (hB.cell (p := ⟨V.heap.size, 1, none⟩) HF3.out.1).trans (HF3.out.at_ (j := 1) rfl)
      have hbw := Nat.lt_of_lt_of_le HF3.out.1 hB.size
      have HC := Lib.hid (HC3.out.below hB HC3.out.1)
      have hcl := nc2_any w.heap.size tb P wr (HC.out.at_ (j := 1) rfl) (HC.out.at_ (j := 2) rfl) HC.out.1 (by have := HTb.out; omega)
      have HBk := Lib.hid hB
      have h1 := hh.1 (by omega)
      have H1 := Lib.hid h1
      clear hh h1
      cases hv : (!P || (dgB tb.data.toList && !decide (tb.data.toList.getLast? = some 48)))
      · rw [hv] at hcl
        have hE : E = 3 := num3 HE.out (by
          cases hP : P
          · rw [hP] at hv; cases hv
          · rw [hP] at hv
            cases ht : dgB tb.data.toList
            · exact Or.inr (Or.inl ⟨rfl, rfl⟩)
            · rw [ht] at hv
              exact Or.inr (Or.inr (Or.inr ⟨rfl, by simpa using hv⟩)))
        have HEq := Lib.hid hE
        clear hE hB
        go_wp2_with (go_at_call 74; with_reducible refine hcl.mono ?_; rintro e w7 ⟨rfl, hb7⟩)
        go_ret
        exact ⟨by rw [HEq.out]; rfl, HB3.out.trans ((HBk.out.trans (hb7.mono HBk.out.size)).mono HB3.out.size)⟩
      · rw [hv] at hcl
        clear hB
        go_wp2_with (go_at_call 74; with_reducible refine hcl.mono ?_; rintro e w7 ⟨rfl, hb7⟩)
        go_roundw
        case rel => exact ⟨2, by omega, by go_num, HBk.out.trans (hb7.mono HBk.out.size), fun _ => by first | exact H1.out | trivial, fun _ => by first | exact hv | trivial, fun h => absurd h (by omega)⟩
        case measure => simp [intOf]
    · have d0 := (hB.cell (p := ⟨V.heap.size, 2, none⟩) HF3.out.1).trans (HF3.out.at_ (j := 2) rfl)
      have hbw := Nat.lt_of_lt_of_le HF3.out.1 hB.size
      have HC := Lib.hid (HC3.out.below hB HC3.out.1)
      have hcl := nc3_any w.heap.size hb wr (HC.out.at_ (j := 0) rfl) (HM.out (hh.1 (by omega)))
      have HBk := Lib.hid hB
      have h1 := hh.1 (by omega)
      have h2 := hh.2.1 (by omega)
      have H1 := Lib.hid h1
      have H2 := Lib.hid h2
      clear hh h1 h2
      cases hv : (!(decide (1 < hb.size) && decide (hb.data.toList.head? = some 48)))
      · rw [hv] at hcl
        have hE : E = 3 := num3 HE.out (by
          have hv2 : (decide (1 < hb.size) && decide (hb.data.toList.head? = some 48)) = true := by simpa using hv
          rw [Bool.and_eq_true, decide_eq_true_eq] at hv2
          exact Or.inr (Or.inr (Or.inl hv2)))
        have HEq := Lib.hid hE
        clear hE hB
        go_wp2_with (go_at_call 76; with_reducible refine hcl.mono ?_; rintro e w7 ⟨rfl, rfl⟩)
        go_ret
        exact ⟨by rw [HEq.out]; rfl, HB3.out.trans (HBk.out.mono HB3.out.size)⟩
      · rw [hv] at hcl
        clear hB
        go_wp2_with (go_at_call 76; with_reducible refine hcl.mono ?_; rintro e w7 ⟨rfl, rfl⟩)
        go_roundw
        case rel => exact ⟨3, by omega, by go_num, HBk.out, fun _ => by first | exact H1.out | trivial, fun _ => by first | exact H2.out | trivial, fun _ => by first | exact hv | trivial⟩
        case measure => simp [intOf]
    · have h1 := hh.1 (by omega)
      have h2 := hh.2.1 (by omega)
      have h3 := hh.2.2 (by omega)
      have HC := Lib.hid (HC3.out.below hB HC3.out.1)
      have HBf := Lib.hid (HB3.out.trans (hB.mono HB3.out.size))
      have HP1 := Lib.hid (show dgB hb.data.toList = true ∧ ¬ (P = true ∧ dgB tb.data.toList = false) ∧ ¬ (1 < hb.size ∧ decide (hb.data.toList.head? = some 48) = true) ∧ ¬ (P = true ∧ decide (tb.data.toList.getLast? = some 48) = true) from ⟨h1, (fun ⟨a, b⟩ => by rw [a, b] at h2; cases h2), (fun ⟨a, b⟩ => by rw [decide_eq_true a, b] at h3; cases h3), (fun ⟨a, b⟩ => by rw [a, b, Bool.not_true, Bool.and_false] at h2; cases h2)⟩)
      have c0 := HC.out.at_ (j := 0) rfl
      have c1 := HC.out.at_ (j := 1) rfl
      have c2 := HC.out.at_ (j := 2) rfl
      have cl := HC.out.1
      clear h1 h2 h3 hh hB
      by_cases hz : s = ⟨#[48]⟩
      case pos =>
        have hq := Hz.out
        rw [decide_eq_true hz] at hq
        have hq2 : s.toList = [48] := by simpa using hq
        have hE : E = 2 := num2 HE.out ⟨HP1.out.1, HP1.out.2.1, HP1.out.2.2.1, HP1.out.2.2.2⟩ (Or.inl (decide_eq_true hz))
        have HEq := Lib.hid hE
        clear hE
        go_wp2_with fail
        go_ret
        exact ⟨by rw [HEq.out]; rfl, HBf.out⟩
      case neg =>
        have hq := Hz.out
        rw [decide_eq_false hz] at hq
        have hq2 : ¬ s.toList = [48] := by simpa using hq
        by_cases h4 : 4 < hb.size
        case pos =>
          have g4 : (4 : Int) < (hb.size : Int) := by omega
          have hE : E = 2 := num2 HE.out ⟨HP1.out.1, HP1.out.2.1, HP1.out.2.2.1, HP1.out.2.2.2⟩ (Or.inr (Or.inl h4))
          have HEq := Lib.hid hE
          clear hE
          go_wp2_with fail
          go_ret
          exact ⟨by rw [HEq.out]; rfl, HBf.out⟩
        case neg =>
          have g4 : ¬ (4 : Int) < (hb.size : Int) := by omega
          by_cases h3 : 3 < tb.size
          case pos =>
            have g3 : (3 : Int) < (tb.size : Int) := by omega
            have hE : E = 2 := num2 HE.out ⟨HP1.out.1, HP1.out.2.1, HP1.out.2.2.1, HP1.out.2.2.2⟩ (Or.inr (Or.inr h3))
            have HEq := Lib.hid hE
            clear hE
            go_wp2_with fail
            go_ret
            exact ⟨by rw [HEq.out]; rfl, HBf.out⟩
          case neg =>
            have g3 : ¬ (3 : Int) < (tb.size : Int) := by omega
            have hE : E = 0 := num0 HE.out ⟨HP1.out.1, HP1.out.2.1, HP1.out.2.2.1, HP1.out.2.2.2⟩ ⟨decide_eq_false hz, h4, h3⟩
            have HEq := Lib.hid hE
            clear hE
            go_wp2_with fail
            go_ret
            exact ⟨by rw [HEq.out]; rfl, HBf.out⟩
end Go.Proofs.YtbhkfemebionnaaGreatDoor
