/- Lemmas and contracts of functions, joined for the claim: LkValP, LkVal, LkSh, LkVal2. -/
import Derived.Test.YtbhkfemebionnaaGreatDoorMDig
import Derived.Test.YtbhkfemebionnaaGreatDoorMPlain
import Derived.Lib.Atoi
namespace Go.Proofs.YtbhkfemebionnaaGreatDoor
open Go.RowKit

theorem decFrom_dgs : ∀ (l : BT) (acc : Nat), Dgs l → Lib.decFrom acc l = some (acc * 10 ^ l.length + dval l)
  | [], acc, _ => by simp [Lib.decFrom, dval_nil]
  | c :: r, acc, hd => by
    have hc := isDg_iff.1 (hd c (by simp))
    rw [Lib.decFrom, show Lib.digitVal c = some (c.toNat - 48) from by unfold Lib.digitVal; rw [if_pos hc]]
    show Lib.decFrom (acc * 10 + (c.toNat - 48)) r = _
    rw [decFrom_dgs r _ (fun x hx => hd x (by simp [hx])), digits_cons]
theorem atoi_dgs {l : BT} (h : Dgs l) (hn : l ≠ []) : Lib.atoi l = some (dval l : Int) := by
  cases l with
  | nil => exact absurd rfl hn
  | cons c r =>
    have hc := isDg_iff.1 (h c (by simp))
    have e1 : (c == 45) = false := by
      rw [beq_eq_false_iff_ne]; rintro rfl; exact absurd hc.1 (by decide)
    have e2 : (c == 43) = false := by
      rw [beq_eq_false_iff_ne]; rintro rfl; exact absurd hc.1 (by decide)
    unfold Lib.atoi
    simp only [e1, e2]
    unfold Lib.decNat
    rw [decFrom_dgs (c :: r) 0 h]
    simp

structure NumR (s : BT) : Prop where
  h : Dgs (headB 46 s)
  h0 : 1 ≤ (headB 46 s).length
  h4 : (headB 46 s).length ≤ 4
  t : Dgs (tailB 46 s)
  t3 : (tailB 46 s).length ≤ 3
theorem dgB_iff {l : BT} (h : dgB l = true) : Dgs l ∧ 1 ≤ l.length := by
  unfold dgB at h
  rw [Bool.and_eq_true] at h
  refine ⟨fun c hc => List.all_eq_true.1 h.2 c hc, ?_⟩
  cases l with
  | nil => exact absurd h.1 (by decide)
  | cons c r => simp
theorem numR_of {s : BT} (h : numE s = 0) : NumR s := by
  unfold numE numF at h
  by_cases h1 : dgB (headB 46 s) = false ∨ (hasB 46 s = true ∧ dgB (tailB 46 s) = false) ∨ (1 < (headB 46 s).length ∧ decide ((headB 46 s).head? = some 48) = true) ∨ (hasB 46 s = true ∧ decide ((tailB 46 s).getLast? = some 48) = true)
  · rw [if_pos h1] at h; exact absurd h (by decide)
  · rw [if_neg h1] at h
    by_cases h2 : decide (s = [48]) = true ∨ 4 < (headB 46 s).length ∨ 3 < (tailB 46 s).length
    · rw [if_pos h2] at h; exact absurd h (by decide)
    · have a1 : dgB (headB 46 s) = true := by
        cases hd : dgB (headB 46 s)
        · exact absurd (Or.inl hd) h1
        · rfl
      refine ⟨(dgB_iff a1).1, (dgB_iff a1).2, Nat.le_of_not_lt fun k => h2 (Or.inr (Or.inl k)), ?_, Nat.le_of_not_lt fun k => h2 (Or.inr (Or.inr k))⟩
      cases hp : hasB 46 s
      · unfold tailB; rw [hp]; intro c hc; simp at hc
      · cases hd : dgB (tailB 46 s)
        · exact absurd (Or.inr (Or.inl ⟨hp, hd⟩)) h1
        · exact (dgB_iff hd).1

def numV (s : BT) : Nat := dval (headB 46 s ++ pad0 (tailB 46 s))
theorem pad3_len (l : BT) : (pad0 l).length = 3 := by unfold pad0; rw [List.length_take, List.length_append]; simp
theorem pad3_dgs {l : BT} (h : Dgs l) : Dgs (pad0 l) := Dgs.take (h.append (by intro c hc; simp at hc; subst hc; decide)) 3
theorem NumR.dg {s : BT} (h : NumR s) : Dgs (headB 46 s ++ pad0 (tailB 46 s)) := h.h.append (pad3_dgs h.t)
theorem NumR.len {s : BT} (h : NumR s) : (headB 46 s ++ pad0 (tailB 46 s)).length ≤ 7 := by
  rw [List.length_append, pad3_len]; have := h.h4; omega
theorem NumR.atoi {s : BT} (h : NumR s) : Lib.atoi (headB 46 s ++ pad0 (tailB 46 s)) = some (numV s : Int) :=
  atoi_dgs h.dg (by
    intro e
    have := congrArg List.length e
    rw [List.length_append, pad3_len] at this
    simp at this)
theorem pad3_get {l : BT} {j : Nat} (hj : j < 3) : (pad0 l)[j]'(by rw [pad3_len]; exact hj) = if h : j < l.length then l[j] else 48 := by
  unfold pad0
  rw [List.getElem_take]
  by_cases h : j < l.length
  · rw [dif_pos h, List.getElem_append_left h]
  · rw [dif_neg h, List.getElem_append_right (by omega)]
    have : ∀ k, (hk : k < 3) → ([48, 48, 48] : BT)[k] = 48 := by decide
    exact this _ (by omega)
theorem dval_push (l k : BT) (j : Nat) (hj : j < k.length) : dval (l ++ k.take (j + 1)) = 10 * dval (l ++ k.take j) + (k[j].toNat - 48) := by
  rw [List.take_succ_eq_append_getElem hj, ← List.append_assoc, dval_snoc]
end Go.Proofs.YtbhkfemebionnaaGreatDoor

namespace Go.Proofs.YtbhkfemebionnaaGreatDoor
open Go.RowKit

set_option maxRecDepth 100000 in
set_option maxHeartbeats 8000000 in
theorem rvalue_any (s : ByteArray) (w : World) (hs : s.size ≤ 9223372036854775807) (hn : NumR s.data.toList) :
    Calls Tryz.prog 59 #[.string s] w fun e w' => e = .returned (.int .i64 (numV s.data.toList)) ∧ ∃ n, w' = w.drewN n := by
  have hsp := fun w => rsplit_any s w hs
  obtain ⟨hb, hhb⟩ : ∃ hb : ByteArray, hb = ⟨(headB 46 s.data.toList).toArray⟩ := ⟨_, rfl⟩
  obtain ⟨tb, htb⟩ : ∃ tb : ByteArray, tb = ⟨(tailB 46 s.data.toList).toArray⟩ := ⟨_, rfl⟩
  have h1 : headB 46 s.data.toList = hb.data.toList := by rw [hhb]
  have h2 : tailB 46 s.data.toList = tb.data.toList := by rw [htb]
  rw [← hhb, ← htb] at hsp
  have hd := hn.h
  have h4 := hn.h4
  have ht := hn.t
  have h3 := hn.t3
  have hE : numV s.data.toList = dval (hb.data.toList ++ pad0 tb.data.toList) := by unfold numV; rw [h1, h2]
  rw [h1] at hd h4
  rw [h2] at ht h3
  rw [bytes_len] at h4 h3
  generalize hasB 46 s.data.toList = P at *
  generalize numV s.data.toList = E at *
  have HE := Lib.hid hE
  have HSp := Lib.hid hsp
  have HD := Lib.hid hd
  have HT := Lib.hid ht
  clear hsp hn hE hhb htb h1 h2 hs hd ht
  go_enter Tryz.func59, Tryz.ntmps59
  go_wp2_with (go_at_call 32; refine (HSp.out _).mono ?_; rintro e w1 ⟨rfl, n1, rfl⟩)
  go_loop [6, 7] (fun a b => ∃ i : Nat, i ≤ hb.size ∧ b = .int .i64 i ∧ a = .int .i64 (dval (hb.data.toList.take i))) (fun _ b => hb.size - (intOf b).toNat)
  case atStart => exact ⟨0, Nat.zero_le _, rfl, rfl⟩
  case round =>
    obtain ⟨i, hi, rfl, rfl⟩ := hrel
    by_cases hlt : i < hb.size
    · have hlen : i < hb.data.toList.length := by rw [bytes_len]; exact hlt
      have e1 : hb.data.toList[i] = hb[i] := rfl
      have hp := dval_take_succ hb.data.toList i hlen
      rw [e1] at hp
      have hdg := isDg_iff.1 (HD.out hb[i] (by rw [← e1]; exact List.getElem_mem hlen))
      have hbd := dval_lt (HD.out.take i)
      have hpw : 10 ^ (hb.data.toList.take i).length ≤ 10 ^ 4 := Nat.pow_le_pow_right (by omega) (by rw [List.length_take]; omega)
      have HP := Lib.hid (show (dval (hb.data.toList.take (i + 1)) : Int) = 10 * (dval (hb.data.toList.take i) : Int) + ((hb[i].toNat : Int) - 48) by rw [hp]; omega)
      generalize dval (hb.data.toList.take i) = a at *
      have w0 : IntKind.i64.wrap ((i : Int) + 1) = (i : Int) + 1 := IntWalk.i64_in _ (by omega)
      have w1 : IntKind.i64.wrap (10 * (a : Int)) = 10 * (a : Int) := IntWalk.i64_in _ (by omega)
      have w2 : IntKind.u8.wrap ((hb[i].toNat : Int) - 48) = (hb[i].toNat : Int) - 48 := IntWalk.u8_in _ (by omega)
      have w3 : IntKind.i64.wrap ((hb[i].toNat : Int) - 48) = (hb[i].toNat : Int) - 48 := IntWalk.i64_in _ (by omega)
      have w4 : IntKind.i64.wrap (10 * (a : Int) + ((hb[i].toNat : Int) - 48)) = 10 * (a : Int) + ((hb[i].toNat : Int) - 48) := IntWalk.i64_in _ (by omega)
      clear hp hdg hbd hpw
      go_wp2
      go_round
      case rel => exact ⟨i + 1, by omega, by go_num, by rw [HP.out]⟩
      case measure => simp [intOf]; omega
    · obtain rfl : i = hb.size := by omega
      rw [List.take_of_length_le (by rw [bytes_len]; omega)]
      go_wp2
      go_loop [6, 8] (fun a b => ∃ i : Nat, i ≤ 3 ∧ b = .int .i64 i ∧ a = .int .i64 (dval (hb.data.toList ++ (pad0 tb.data.toList).take i))) (fun _ b => 3 - (intOf b).toNat)
      case atStart => exact ⟨0, Nat.zero_le _, rfl, by rw [List.take_zero, List.append_nil]⟩
      case round =>
        obtain ⟨i, hi, rfl, rfl⟩ := hrel
        by_cases hlt : i < 3
        · have hp := dval_push hb.data.toList (pad0 tb.data.toList) i (by rw [pad3_len]; exact hlt)
          rw [pad3_get hlt] at hp
          have hbd := dval_lt (HD.out.append ((pad3_dgs HT.out).take i))
          have hpw : 10 ^ (hb.data.toList ++ (pad0 tb.data.toList).take i).length ≤ 10 ^ 7 := Nat.pow_le_pow_right (by omega) (by rw [List.length_append, List.length_take, bytes_len]; omega)
          generalize dval (hb.data.toList ++ (pad0 tb.data.toList).take i) = a at *
          have g0 : (i : Int) < 3 := by omega
          have w0 : IntKind.i64.wrap ((i : Int) + 1) = (i : Int) + 1 := IntWalk.i64_in _ (by omega)
          have w1 : IntKind.i64.wrap (10 * (a : Int)) = 10 * (a : Int) := IntWalk.i64_in _ (by omega)
          by_cases ht : i < tb.size
          · have hlen : i < tb.data.toList.length := by rw [bytes_len]; exact ht
            have e1 : tb.data.toList[i] = tb[i] := rfl
            rw [dif_pos hlen, e1] at hp
            have hdg := isDg_iff.1 (HT.out tb[i] (by rw [← e1]; exact List.getElem_mem hlen))
            have HP := Lib.hid (show (dval (hb.data.toList ++ (pad0 tb.data.toList).take (i + 1)) : Int) = 10 * (a : Int) + ((tb[i].toNat : Int) - 48) by rw [hp]; omega)
            have w2 : IntKind.u8.wrap ((tb[i].toNat : Int) - 48) = (tb[i].toNat : Int) - 48 := IntWalk.u8_in _ (by omega)
            have w3 : IntKind.i64.wrap ((tb[i].toNat : Int) - 48) = (tb[i].toNat : Int) - 48 := IntWalk.i64_in _ (by omega)
            have w4 : IntKind.i64.wrap (10 * (a : Int) + ((tb[i].toNat : Int) - 48)) = 10 * (a : Int) + ((tb[i].toNat : Int) - 48) := IntWalk.i64_in _ (by omega)
            have gt : (i : Int) < (tb.size : Int) := by omega
            clear hp hdg hbd hpw
            go_wp2
            go_round
            case rel => exact ⟨i + 1, by omega, by go_num, by rw [HP.out]⟩
            case measure => simp [intOf]; omega
          · have HP := Lib.hid (show (dval (hb.data.toList ++ (pad0 tb.data.toList).take (i + 1)) : Int) = 10 * (a : Int) by rw [hp, dif_neg (by rw [bytes_len]; exact ht)]; simp)
            have gt : ¬ (i : Int) < (tb.size : Int) := by omega
            clear hp hbd hpw
            go_wp2
            go_round
            case rel => exact ⟨i + 1, by omega, by go_num, by rw [HP.out]⟩
            case measure => simp [intOf]; omega
        · obtain rfl : i = 3 := by omega
          rw [List.take_of_length_le (by rw [pad3_len]; omega), ← HE.out]
          go_wp2
          go_ret
          exact ⟨rfl, _, rfl⟩
set_option maxRecDepth 100000 in
set_option maxHeartbeats 8000000 in
theorem nvalue_any (s : ByteArray) (w : World) (hs : s.size ≤ 9223372036854775807) (hn : NumR s.data.toList) :
    Calls Tryz.prog 137 #[.string s] w fun e w' => e = .returned (.int .i64 (numV s.data.toList)) ∧ Below w.heap.size w w' := by
  have hsp := fun w => scutd_any s w (by omega)
  obtain ⟨hb, hhb⟩ : ∃ hb : ByteArray, hb = ⟨(headB 46 s.data.toList).toArray⟩ := ⟨_, rfl⟩
  obtain ⟨tb, htb⟩ : ∃ tb : ByteArray, tb = ⟨(tailB 46 s.data.toList).toArray⟩ := ⟨_, rfl⟩
  have h1 : headB 46 s.data.toList = hb.data.toList := by rw [hhb]
  have h2 : tailB 46 s.data.toList = tb.data.toList := by rw [htb]
  have hat := hn.atoi
  have hl := hn.len
  rw [← hhb, ← htb] at hsp
  rw [h1, h2] at hat hl
  obtain ⟨nb, hnb⟩ : ∃ nb : ByteArray, nb = hb ++ (tb ++ ⟨#[48, 48, 48]⟩ : ByteArray).extract 0 3 := ⟨_, rfl⟩
  have hnl : nb.data.toList = hb.data.toList ++ pad0 tb.data.toList := by
    rw [hnb, ByteArray.data_append, Array.toList_append, take_bytes0, ByteArray.data_append, Array.toList_append]; rfl
  rw [← hnl] at hat hl
  rw [bytes_len] at hl
  have hsz : 3 ≤ tb.size + 3 := by omega
  have HA := Lib.hid (fun w => Tryz.strconv_Atoi nb _ (by omega) hat w)
  generalize hasB 46 s.data.toList = P at *
  generalize numV s.data.toList = E at *
  have HSp := Lib.hid hsp
  have HN := Lib.hid hnb
  have hcl : ¬ 9223372036854775807 < hb.size + 3 := by
    have := hn.h4; rw [h1, bytes_len] at this; omega
  have ht3 : tb.size ≤ 9223372036854775700 := by
    have := hn.t3; rw [h2, bytes_len] at this; omega
  clear hsp hn hhb htb h1 h2 hs hat hl hnb hnl
  go_enter Tryz.func137, Tryz.ntmps137
  go_wp2_with (first | (go_at_call 71; refine (HSp.out _).mono ?_; rintro e w1 ⟨rfl, n1, rfl⟩) | (go_at_call 147; rw [← HN.out]; refine (HA.out _).mono ?_; rintro e w1 ⟨rfl, t, rfl⟩))
  go_ret
  exact ⟨rfl, (below_drewN (Below.refl _ _) _).trans ((Lib.bytesWorld_below _ _ _).mono (by simp))⟩
set_option maxRecDepth 100000 in
set_option maxHeartbeats 8000000 in
theorem nthou_any (s : ByteArray) (w : World) (hs : s.size ≤ 9223372036854775807) (hn : numE s.data.toList = 0) :
    Calls Tryz.prog 120 #[.string s] w fun e w' => e = .returned (.tuple #[.int .i64 (numV s.data.toList), .int .i64 0]) ∧ Below w.heap.size w w' := by
  have HC := Lib.hid (fun w => nchk_any s w hs)
  have HV := Lib.hid (fun w => nvalue_any s w hs (numR_of hn))
  rw [hn] at HC
  generalize (numV s.data.toList : Int) = E at *
  clear hn hs
  go_enter Tryz.func120, Tryz.ntmps120
  go_wp2_with (first | (go_at_call 48; refine (HC.out _).mono ?_; rintro e w1 ⟨rfl, hb1⟩) | (go_at_call 137; refine (HV.out _).mono ?_; rintro e w2 ⟨rfl, hb2⟩))
  go_ret2
  exact ⟨rfl, hb1.trans (hb2.mono hb1.size)⟩
set_option maxRecDepth 100000 in
set_option maxHeartbeats 8000000 in
theorem nvalues_any (s t : ByteArray) (w : World) (hs : s.size ≤ 9223372036854775807) (hn : numE s.data.toList = 0) (ht : t.size ≤ 9223372036854775807) (hm : numE t.data.toList = 0) :
    Calls Tryz.prog 94 #[.string s, .string t] w fun e w' => e = .returned (.tuple #[.int .i64 (numV s.data.toList), .int .i64 (numV t.data.toList), .int .i64 0]) ∧ Below w.heap.size w w' := by
  have HS := Lib.hid (fun w => nthou_any s w hs hn)
  have HT := Lib.hid (fun w => nthou_any t w ht hm)
  generalize (numV s.data.toList : Int) = E at *
  generalize (numV t.data.toList : Int) = F at *
  clear hn hs hm ht
  go_enter Tryz.func94, Tryz.ntmps94
  go_wp2_with (first | (go_at_call 120; with_reducible refine (HS.out _).mono ?_; rintro e w1 ⟨rfl, hb1⟩) | (go_at_call 120; with_reducible refine (HT.out _).mono ?_; rintro e w2 ⟨rfl, hb2⟩))
  go_ret3
  exact ⟨rfl, hb1.trans (hb2.mono hb1.size)⟩

def ordI (a b : Int) : Int := if a < b then -1 else if b < a then 1 else 0
set_option maxRecDepth 100000 in
set_option maxHeartbeats 8000000 in
theorem ncompare_any (s t : ByteArray) (w : World) (hs : s.size ≤ 9223372036854775807) (hn : numE s.data.toList = 0) (ht : t.size ≤ 9223372036854775807) (hm : numE t.data.toList = 0) :
    Calls Tryz.prog 69 #[.string s, .string t] w fun e w' => e = .returned (.tuple #[.int .i64 (ordI (numV s.data.toList) (numV t.data.toList)), .int .i64 0]) ∧ Below w.heap.size w w' := by
  have HS := Lib.hid (fun w => nvalues_any s t w hs hn ht hm)
  generalize (numV s.data.toList : Int) = E at *
  generalize (numV t.data.toList : Int) = F at *
  clear hn hs hm ht
  rcases Int.lt_trichotomy E F with h | h | h
  · have HE := Lib.hid (show ordI E F = -1 by unfold ordI; rw [if_pos h])
    go_enter Tryz.func69, Tryz.ntmps69
    go_wp2_with (go_at_call 94; refine (HS.out _).mono ?_; rintro e w1 ⟨rfl, hb1⟩)
    go_ret2
    exact ⟨by rw [HE.out]; rfl, hb1⟩
  · subst h
    have hi := Int.lt_irrefl E
    have HE := Lib.hid (show ordI E E = 0 by unfold ordI; rw [if_neg hi, if_neg hi])
    go_enter Tryz.func69, Tryz.ntmps69
    go_wp2_with (go_at_call 94; refine (HS.out _).mono ?_; rintro e w1 ⟨rfl, hb1⟩)
    go_ret2
    exact ⟨by rw [HE.out]; rfl, hb1⟩
  · have h2 : ¬ E < F := by omega
    have HE := Lib.hid (show ordI E F = 1 by unfold ordI; rw [if_neg h2, if_pos h])
    go_enter Tryz.func69, Tryz.ntmps69
    go_wp2_with (go_at_call 94; refine (HS.out _).mono ?_; rintro e w1 ⟨rfl, hb1⟩)
    go_ret2
    exact ⟨by rw [HE.out]; rfl, hb1⟩
set_option maxRecDepth 100000 in
set_option maxHeartbeats 8000000 in
theorem rorder_any (s t : ByteArray) (w : World) (hs : s.size ≤ 9223372036854775807) (hn : numE s.data.toList = 0) (ht : t.size ≤ 9223372036854775807) (hm : numE t.data.toList = 0) :
    Calls Tryz.prog 29 #[.string s, .string t] w fun e w' => e = .returned (.int .i64 (ordI (numV s.data.toList) (numV t.data.toList))) ∧ ∃ n, w' = w.drewN n := by
  have HS := Lib.hid (fun w => rvalue_any s w hs (numR_of hn))
  have HT := Lib.hid (fun w => rvalue_any t w ht (numR_of hm))
  generalize (numV s.data.toList : Int) = E at *
  generalize (numV t.data.toList : Int) = F at *
  clear hn hs hm ht
  rcases Int.lt_trichotomy E F with h | h | h
  · have HE := Lib.hid (show ordI E F = -1 by unfold ordI; rw [if_pos h])
    go_enter Tryz.func29, Tryz.ntmps29
    go_wp2_with (first | (go_at_call 59; with_reducible refine (HS.out _).mono ?_; rintro e w1 ⟨rfl, n1, rfl⟩) | (go_at_call 59; with_reducible refine (HT.out _).mono ?_; rintro e w2 ⟨rfl, n2, rfl⟩))
    go_ret
    exact ⟨by rw [HE.out]; rfl, _, rfl⟩
  · subst h
    have hi := Int.lt_irrefl E
    have HE := Lib.hid (show ordI E E = 0 by unfold ordI; rw [if_neg hi, if_neg hi])
    go_enter Tryz.func29, Tryz.ntmps29
    go_wp2_with (first | (go_at_call 59; with_reducible refine (HS.out _).mono ?_; rintro e w1 ⟨rfl, n1, rfl⟩) | (go_at_call 59; with_reducible refine (HT.out _).mono ?_; rintro e w2 ⟨rfl, n2, rfl⟩))
    go_ret
    exact ⟨by rw [HE.out]; rfl, _, rfl⟩
  · have h2 : ¬ E < F := by omega
    have HE := Lib.hid (show ordI E F = 1 by unfold ordI; rw [if_neg h2, if_pos h])
    go_enter Tryz.func29, Tryz.ntmps29
    go_wp2_with (first | (go_at_call 59; with_reducible refine (HS.out _).mono ?_; rintro e w1 ⟨rfl, n1, rfl⟩) | (go_at_call 59; with_reducible refine (HT.out _).mono ?_; rintro e w2 ⟨rfl, n2, rfl⟩))
    go_ret
    exact ⟨by rw [HE.out]; rfl, _, rfl⟩
set_option maxHeartbeats 8000000 in
theorem ccompare_any (s t : ByteArray) (w : World) (hs : s.size ≤ 9223372036854775807) (hn : numE s.data.toList = 0) (ht : t.size ≤ 9223372036854775807) (hm : numE t.data.toList = 0) :
    Calls Tryz.prog 42 #[.string s, .string t] w fun e w' => e = .returned (.int .i64 (ordI (numV s.data.toList) (numV t.data.toList))) ∧ Below w.heap.size w w' := by
  have HS := Lib.hid (fun w => ncompare_any s t w hs hn ht hm)
  generalize ordI (numV s.data.toList) (numV t.data.toList) = E at *
  clear hn hs hm ht
  go_enter Tryz.func42, Tryz.ntmps42
  go_wp2_with (go_at_call 69; refine (HS.out _).mono ?_; rintro e w1 ⟨rfl, hb1⟩)
  go_ret
  exact ⟨rfl, hb1⟩
end Go.Proofs.YtbhkfemebionnaaGreatDoor

namespace Go.Proofs.YtbhkfemebionnaaGreatDoor
open Go.RowKit

structure Mv where
  ch : Int
  atr : Int
  pa : Int
  le : Int
  pt : Int
structure Tm where
  up : Int
  dn : Int
  po : Int
  co : Int
  be : Int
  de : Int
def shMv : Sh Mv := ⟨5, fun m => [.int .i64 m.ch, .int .i64 m.atr, .int .i64 m.pa, .int .i64 m.le, .int .i64 m.pt], fun _ => rfl, fun a => by simp; exact ⟨rfl, rfl, rfl, rfl, rfl⟩⟩
def shTm : Sh Tm := ⟨6, fun m => [.int .i64 m.up, .int .i64 m.dn, .int .i64 m.po, .int .i64 m.co, .int .i64 m.be, .int .i64 m.de], fun _ => rfl, fun a => by simp; exact ⟨rfl, rfl, rfl, rfl, rfl, rfl⟩⟩

structure Cu where
  num : ByteArray
  lab : ByteArray
  MA : Option Addr
  mn : Nat
  mc : Nat
  PA : Option Addr
  pn : Nat
  pc : Nat
  blk : Bool
  mrk : Bool
  fol : Int
  lnk : ByteArray
  lps : Int
def Cu.cells (c : Cu) : List Value := [.string c.num, .string c.lab, .slice c.MA c.mn c.mc, .slice c.PA c.pn c.pc, .bool c.blk, .bool c.mrk, .int .i64 c.fol, .string c.lnk, .int .i64 c.lps]
def shCu : Sh Cu := ⟨9, Cu.cells, fun _ => rfl, fun a => by unfold Cu.cells; simp; exact ⟨rfl, rfl, rfl, rfl, rfl, rfl, rfl, rfl, rfl⟩⟩
structure CV where
  c : Cu
  ms : List Mv
  ts : List Tm
def CV.In (w : World) (x : CV) : Prop := shMv.In w x.c.MA x.c.mn x.ms ∧ shTm.In w x.c.PA x.c.pn x.ts
theorem CV.In.below {w w' : World} {x : CV} (h : x.In w) (hb : Below w.heap.size w w') : x.In w' := ⟨h.1.below hb, h.2.below hb⟩

def InC (w : World) (A : Option Addr) (n : Nat) (X : List CV) : Prop := shCu.In w A n (X.map CV.c) ∧ ∀ x ∈ X, x.In w
theorem InC.below {w w' : World} {A : Option Addr} {n : Nat} {X : List CV} (h : InC w A n X) (hb : Below w.heap.size w w') : InC w' A n X :=
  ⟨h.1.below hb, fun x hx => (h.2 x hx).below hb⟩
theorem InC.len {w : World} {A : Option Addr} {n : Nat} {X : List CV} (h : InC w A n X) : n = X.length := by rw [h.1.1, List.length_map]
theorem mv_at {w : World} {A : Option Addr} {n : Nat} {l : List Mv} (h : shMv.In w A n l) (h0 : 0 < l.length) :
    ∃ b o, A = some ⟨b, o, none⟩ ∧ b < w.heap.size ∧ ∀ k (hk : k < l.length), w.cell? ⟨b, o + k * 5, none⟩ = some (.int .i64 l[k].ch) ∧ w.cell? ⟨b, o + k * 5 + 1, none⟩ = some (.int .i64 l[k].atr) ∧ w.cell? ⟨b, o + k * 5 + 2, none⟩ = some (.int .i64 l[k].pa) ∧ w.cell? ⟨b, o + k * 5 + 3, none⟩ = some (.int .i64 l[k].le) ∧ w.cell? ⟨b, o + k * 5 + 4, none⟩ = some (.int .i64 l[k].pt) := by
  obtain ⟨b, o, e, hb, hc⟩ := h.at_ h0
  exact ⟨b, o, e, hb, fun k hk => ⟨hc k hk 0 _ (by decide) rfl, hc k hk 1 _ (by decide) rfl, hc k hk 2 _ (by decide) rfl, hc k hk 3 _ (by decide) rfl, hc k hk 4 _ (by decide) rfl⟩⟩
theorem tm_at {w : World} {A : Option Addr} {n : Nat} {l : List Tm} (h : shTm.In w A n l) (h0 : 0 < l.length) :
    ∃ b o, A = some ⟨b, o, none⟩ ∧ b < w.heap.size ∧ ∀ k (hk : k < l.length), w.cell? ⟨b, o + k * 6, none⟩ = some (.int .i64 l[k].up) ∧ w.cell? ⟨b, o + k * 6 + 1, none⟩ = some (.int .i64 l[k].dn) ∧ w.cell? ⟨b, o + k * 6 + 2, none⟩ = some (.int .i64 l[k].po) ∧ w.cell? ⟨b, o + k * 6 + 3, none⟩ = some (.int .i64 l[k].co) ∧ w.cell? ⟨b, o + k * 6 + 4, none⟩ = some (.int .i64 l[k].be) ∧ w.cell? ⟨b, o + k * 6 + 5, none⟩ = some (.int .i64 l[k].de) := by
  obtain ⟨b, o, e, hb, hc⟩ := h.at_ h0
  exact ⟨b, o, e, hb, fun k hk => ⟨hc k hk 0 _ (by decide) rfl, hc k hk 1 _ (by decide) rfl, hc k hk 2 _ (by decide) rfl, hc k hk 3 _ (by decide) rfl, hc k hk 4 _ (by decide) rfl, hc k hk 5 _ (by decide) rfl⟩⟩
theorem cu_at {w : World} {A : Option Addr} {n : Nat} {X : List CV} (h : InC w A n X) (h0 : 0 < X.length) :
    ∃ b o, A = some ⟨b, o, none⟩ ∧ b < w.heap.size ∧ ∀ k (hk : k < X.length), w.cell? ⟨b, o + k * 9, none⟩ = some (.string X[k].c.num) ∧ w.cell? ⟨b, o + k * 9 + 1, none⟩ = some (.string X[k].c.lab) ∧ w.cell? ⟨b, o + k * 9 + 2, none⟩ = some (.slice X[k].c.MA X[k].c.mn X[k].c.mc) ∧ w.cell? ⟨b, o + k * 9 + 3, none⟩ = some (.slice X[k].c.PA X[k].c.pn X[k].c.pc) ∧ w.cell? ⟨b, o + k * 9 + 4, none⟩ = some (.bool X[k].c.blk) ∧ w.cell? ⟨b, o + k * 9 + 5, none⟩ = some (.bool X[k].c.mrk) ∧ w.cell? ⟨b, o + k * 9 + 6, none⟩ = some (.int .i64 X[k].c.fol) ∧ w.cell? ⟨b, o + k * 9 + 7, none⟩ = some (.string X[k].c.lnk) ∧ w.cell? ⟨b, o + k * 9 + 8, none⟩ = some (.int .i64 X[k].c.lps) := by
  obtain ⟨b, o, e, hb, hc⟩ := h.1.at_ (by rw [List.length_map]; exact h0)
  refine ⟨b, o, e, hb, fun k hk => ?_⟩
  have hk' : k < (X.map CV.c).length := by rw [List.length_map]; exact hk
  have e : (X.map CV.c)[k] = X[k].c := List.getElem_map ..
  have hc := hc k hk'
  rw [e] at hc
  exact ⟨hc 0 _ (by decide) rfl, hc 1 _ (by decide) rfl, hc 2 _ (by decide) rfl, hc 3 _ (by decide) rfl, hc 4 _ (by decide) rfl, hc 5 _ (by decide) rfl, hc 6 _ (by decide) rfl, hc 7 _ (by decide) rfl, hc 8 _ (by decide) rfl⟩

def parOK (c a : Int) : Prop := 1 ≤ c ∧ c ≤ 999 ∧ 0 ≤ a ∧ a ≤ 14
def valOK (p l : Int) : Prop := (p = 0 ∧ 0 ≤ l ∧ l ≤ 65535) ∨ (-1 ≤ p ∧ p ≤ 1048576 ∧ p ≠ 0 ∧ l = 0)
def parE (c a : Int) : Int := if 1 ≤ c ∧ c ≤ 999 ∧ 0 ≤ a ∧ a ≤ 14 then 0 else 2
theorem parE_iff {c a : Int} : parE c a = 0 ↔ parOK c a := by
  unfold parE parOK
  by_cases h : 1 ≤ c ∧ c ≤ 999 ∧ 0 ≤ a ∧ a ≤ 14
  · rw [if_pos h]; exact ⟨fun _ => h, fun _ => rfl⟩
  · rw [if_neg h]; exact ⟨fun k => absurd k (by decide), fun k => absurd k h⟩
def ltP (c a d b : Int) : Prop := c < d ∨ (c = d ∧ a < b)
instance (c a d b : Int) : Decidable (ltP c a d b) := by unfold ltP; infer_instance
def ltB (c a d b : Int) : Bool := decide (ltP c a d b)
def inR (c k : Int) : Bool := decide (0 ≤ c ∧ c ≤ k)
def ltM (m k : Mv) : Prop := ltP m.ch m.atr k.ch k.atr
def Mv.ok (m : Mv) : Prop := parOK m.ch m.atr ∧ valOK m.pa m.le ∧ 1 ≤ m.pt ∧ m.pt ≤ 4

structure MvsOK (l : List Mv) : Prop where
  few : l.length ≤ 128
  ok : ∀ m ∈ l, m.ok
  up : l.Pairwise ltM
theorem ltM_trans {a b c : Mv} (h : ltM a b) (k : ltM b c) : ltM a c := by
  unfold ltM ltP at *; omega
theorem chain_up : ∀ {l : List Mv}, (∀ j (h : j + 1 < l.length), ltM (l[j]'(by omega)) l[j + 1]) → l.Pairwise ltM
  | [], _ => List.Pairwise.nil
  | [a], _ => List.pairwise_singleton _ _
  | a :: b :: l, h => by
    have ih : (b :: l).Pairwise ltM := chain_up fun j hj => h (j + 1) (by simpa using hj)
    have h0 : ltM a b := h 0 (by simp)
    refine List.Pairwise.cons (fun x hx => ?_) ih
    rcases List.mem_cons.1 hx with rfl | hx
    · exact h0
    · exact ltM_trans h0 (List.rel_of_pairwise_cons ih hx)
def Tm.all (t : Tm) (P : Int → Prop) : Prop := P t.up ∧ P t.dn ∧ P t.po ∧ P t.co ∧ P t.be ∧ P t.de
def Tm.ok (t : Tm) : Prop := t.all fun v => 0 ≤ v ∧ v ≤ 10000000
def labOK (s : BT) : Prop := s.length ≤ 24 ∧ ∀ c ∈ s, 32 ≤ c.toNat ∧ c.toNat ≤ 126 ∧ c.toNat ≠ 34

structure CuOK (x : CV) : Prop where
  num : numE x.c.num.data.toList = 0
  lab : labOK x.c.lab.data.toList
  ms : MvsOK x.ms
  t1 : 1 ≤ x.ts.length
  t4 : x.ts.length ≤ 4
  ts : ∀ t ∈ x.ts, t.ok
  pt : ∀ m ∈ x.ms, m.pt ≤ x.ts.length
  fol : x.c.fol = -1 ∨ (25 ≤ x.c.fol ∧ x.c.fol ≤ 10000000)
  lnk : x.c.lnk = ⟨#[]⟩ ∨ numE x.c.lnk.data.toList = 0
  lps : 0 ≤ x.c.lps ∧ x.c.lps ≤ 100
  use : x.c.lnk = ⟨#[]⟩ → x.c.lps = 0

set_option maxHeartbeats 2000000 in
theorem rparam_any (c a : Int) (w : World) :
    Calls Tryz.prog 80 #[.agg #[.int .i64 c, .int .i64 a]] w fun e w' => e = .returned (.int .i64 (parE c a)) ∧ Below w.heap.size w w' := by
  by_cases h1 : c < 1
  · have HE := Lib.hid (show parE c a = 2 by unfold parE; rw [if_neg (by omega)])
    go_enter Tryz.func80, Tryz.ntmps80
    go_wp2_with fail
    go_ret
    exact ⟨by rw [HE.out]; first | rfl | (go_simp; omega) | (simp; omega), by first | exact Below.refl _ _ | exact (Below.refl _ _).alloc (Nat.le_refl _) _ | exact ((Below.refl _ _).alloc (Nat.le_refl _) _).alloc (by simp) _⟩
  · by_cases h2 : 999 < c
    · have HE := Lib.hid (show parE c a = 2 by unfold parE; rw [if_neg (by omega)])
      go_enter Tryz.func80, Tryz.ntmps80
      go_wp2_with fail
      go_ret
      exact ⟨by rw [HE.out]; first | rfl | (go_simp; omega) | (simp; omega), by first | exact Below.refl _ _ | exact (Below.refl _ _).alloc (Nat.le_refl _) _ | exact ((Below.refl _ _).alloc (Nat.le_refl _) _).alloc (by simp) _⟩
    · by_cases h3 : a < 0
      · have HE := Lib.hid (show parE c a = 2 by unfold parE; rw [if_neg (by omega)])
        go_enter Tryz.func80, Tryz.ntmps80
        go_wp2_with fail
        go_ret
        exact ⟨by rw [HE.out]; first | rfl | (go_simp; omega) | (simp; omega), by first | exact Below.refl _ _ | exact (Below.refl _ _).alloc (Nat.le_refl _) _ | exact ((Below.refl _ _).alloc (Nat.le_refl _) _).alloc (by simp) _⟩
      · by_cases h4 : 15 ≤ a
        · have HE := Lib.hid (show parE c a = 2 by unfold parE; rw [if_neg (by omega)])
          go_enter Tryz.func80, Tryz.ntmps80
          go_wp2_with fail
          go_ret
          exact ⟨by rw [HE.out]; first | rfl | (go_simp; omega) | (simp; omega), by first | exact Below.refl _ _ | exact (Below.refl _ _).alloc (Nat.le_refl _) _ | exact ((Below.refl _ _).alloc (Nat.le_refl _) _).alloc (by simp) _⟩
        · have HE := Lib.hid (show parE c a = 0 by unfold parE; rw [if_pos (by omega)])
          go_enter Tryz.func80, Tryz.ntmps80
          go_wp2_with fail
          go_ret
          exact ⟨by rw [HE.out]; first | rfl | (go_simp; omega) | (simp; omega), by first | exact Below.refl _ _ | exact (Below.refl _ _).alloc (Nat.le_refl _) _ | exact ((Below.refl _ _).alloc (Nat.le_refl _) _).alloc (by simp) _⟩
set_option maxHeartbeats 2000000 in
theorem nparam_any (c a : Int) (w : World) :
    Calls Tryz.prog 100 #[.agg #[.int .i64 c, .int .i64 a]] w fun e w' => e = .returned (.int .i64 (parE c a)) ∧ Below w.heap.size w w' := by
  by_cases h1 : c < 1
  · have HE := Lib.hid (show parE c a = 2 by unfold parE; rw [if_neg (by omega)])
    go_enter Tryz.func100, Tryz.ntmps100
    go_wp2_with fail
    go_ret
    exact ⟨by rw [HE.out]; first | rfl | (go_simp; omega) | (simp; omega), by first | exact Below.refl _ _ | exact (Below.refl _ _).alloc (Nat.le_refl _) _ | exact ((Below.refl _ _).alloc (Nat.le_refl _) _).alloc (by simp) _⟩
  · by_cases h2 : 999 < c
    · have HE := Lib.hid (show parE c a = 2 by unfold parE; rw [if_neg (by omega)])
      go_enter Tryz.func100, Tryz.ntmps100
      go_wp2_with fail
      go_ret
      exact ⟨by rw [HE.out]; first | rfl | (go_simp; omega) | (simp; omega), by first | exact Below.refl _ _ | exact (Below.refl _ _).alloc (Nat.le_refl _) _ | exact ((Below.refl _ _).alloc (Nat.le_refl _) _).alloc (by simp) _⟩
    · by_cases h3 : a < 0
      · have HE := Lib.hid (show parE c a = 2 by unfold parE; rw [if_neg (by omega)])
        go_enter Tryz.func100, Tryz.ntmps100
        go_wp2_with fail
        go_ret
        exact ⟨by rw [HE.out]; first | rfl | (go_simp; omega) | (simp; omega), by first | exact Below.refl _ _ | exact (Below.refl _ _).alloc (Nat.le_refl _) _ | exact ((Below.refl _ _).alloc (Nat.le_refl _) _).alloc (by simp) _⟩
      · by_cases h4 : 15 ≤ a
        · have HE := Lib.hid (show parE c a = 2 by unfold parE; rw [if_neg (by omega)])
          go_enter Tryz.func100, Tryz.ntmps100
          go_wp2_with fail
          go_ret
          exact ⟨by rw [HE.out]; first | rfl | (go_simp; omega) | (simp; omega), by first | exact Below.refl _ _ | exact (Below.refl _ _).alloc (Nat.le_refl _) _ | exact ((Below.refl _ _).alloc (Nat.le_refl _) _).alloc (by simp) _⟩
        · have HE := Lib.hid (show parE c a = 0 by unfold parE; rw [if_pos (by omega)])
          go_enter Tryz.func100, Tryz.ntmps100
          go_wp2_with fail
          go_ret
          exact ⟨by rw [HE.out]; first | rfl | (go_simp; omega) | (simp; omega), by first | exact Below.refl _ _ | exact (Below.refl _ _).alloc (Nat.le_refl _) _ | exact ((Below.refl _ _).alloc (Nat.le_refl _) _).alloc (by simp) _⟩
set_option maxHeartbeats 2000000 in
theorem rislev_any (c : Int) (w : World) :
    Calls Tryz.prog 104 #[.int .i64 c] w fun e w' => e = .returned (.bool (inR c 65535)) ∧ Below w.heap.size w w' := by
  by_cases h1 : c < 0
  · have HE := Lib.hid (show inR c 65535 = false from decide_eq_false (by omega))
    go_enter Tryz.func104, Tryz.ntmps104
    go_wp2_with fail
    go_ret
    exact ⟨by rw [HE.out]; first | rfl | (go_simp; omega) | (simp; omega), by first | exact Below.refl _ _ | exact (Below.refl _ _).alloc (Nat.le_refl _) _ | exact ((Below.refl _ _).alloc (Nat.le_refl _) _).alloc (by simp) _⟩
  · by_cases h2 : 65535 < c
    · have HE := Lib.hid (show inR c 65535 = false from decide_eq_false (by omega))
      go_enter Tryz.func104, Tryz.ntmps104
      go_wp2_with fail
      go_ret
      exact ⟨by rw [HE.out]; first | rfl | (go_simp; omega) | (simp; omega), by first | exact Below.refl _ _ | exact (Below.refl _ _).alloc (Nat.le_refl _) _ | exact ((Below.refl _ _).alloc (Nat.le_refl _) _).alloc (by simp) _⟩
    · have HE := Lib.hid (show inR c 65535 = true from decide_eq_true (by omega))
      go_enter Tryz.func104, Tryz.ntmps104
      go_wp2_with fail
      go_ret
      exact ⟨by rw [HE.out]; first | rfl | (go_simp; omega) | (simp; omega), by first | exact Below.refl _ _ | exact (Below.refl _ _).alloc (Nat.le_refl _) _ | exact ((Below.refl _ _).alloc (Nat.le_refl _) _).alloc (by simp) _⟩
set_option maxHeartbeats 2000000 in
theorem ristime_any (c : Int) (w : World) :
    Calls Tryz.prog 83 #[.int .i64 c] w fun e w' => e = .returned (.bool (inR c 10000000)) ∧ w' = w := by
  by_cases h1 : c < 0
  · have HE := Lib.hid (show inR c 10000000 = false from decide_eq_false (by omega))
    go_enter Tryz.func83, Tryz.ntmps83
    go_wp2_with fail
    go_ret
    exact ⟨by rw [HE.out]; first | rfl | (go_simp; omega) | (simp; omega), rfl⟩
  · by_cases h2 : 10000000 < c
    · have HE := Lib.hid (show inR c 10000000 = false from decide_eq_false (by omega))
      go_enter Tryz.func83, Tryz.ntmps83
      go_wp2_with fail
      go_ret
      exact ⟨by rw [HE.out]; first | rfl | (go_simp; omega) | (simp; omega), rfl⟩
    · have HE := Lib.hid (show inR c 10000000 = true from decide_eq_true (by omega))
      go_enter Tryz.func83, Tryz.ntmps83
      go_wp2_with fail
      go_ret
      exact ⟨by rw [HE.out]; first | rfl | (go_simp; omega) | (simp; omega), rfl⟩
set_option maxHeartbeats 2000000 in
theorem rbefore_any (c a d b : Int) (w : World) :
    Calls Tryz.prog 82 #[.agg #[.int .i64 c, .int .i64 a], .agg #[.int .i64 d, .int .i64 b]] w fun e w' => e = .returned (.bool (ltB c a d b)) ∧ Below w.heap.size w w' := by
  by_cases h1 : c < d
  · have HE := Lib.hid (show ltB c a d b = true from decide_eq_true (by unfold ltP; omega))
    go_enter Tryz.func82, Tryz.ntmps82
    go_wp2_with fail
    go_ret
    exact ⟨by rw [HE.out]; first | rfl | (go_simp; omega) | (simp; omega), by first | exact Below.refl _ _ | exact (Below.refl _ _).alloc (Nat.le_refl _) _ | exact ((Below.refl _ _).alloc (Nat.le_refl _) _).alloc (by simp) _⟩
  · by_cases h2 : c = d
    · by_cases h3 : a < b
      · subst h2
        have HE := Lib.hid (show ltB c a c b = true from decide_eq_true (by unfold ltP; omega))
        go_enter Tryz.func82, Tryz.ntmps82
        go_wp2_with fail
        go_ret
        exact ⟨by rw [HE.out]; first | rfl | (go_simp; omega) | (simp; omega), by first | exact Below.refl _ _ | exact (Below.refl _ _).alloc (Nat.le_refl _) _ | exact ((Below.refl _ _).alloc (Nat.le_refl _) _).alloc (by simp) _⟩
      · subst h2
        have HE := Lib.hid (show ltB c a c b = false from decide_eq_false (by unfold ltP; omega))
        go_enter Tryz.func82, Tryz.ntmps82
        go_wp2_with fail
        go_ret
        exact ⟨by rw [HE.out]; first | rfl | (go_simp; omega) | (simp; omega), by first | exact Below.refl _ _ | exact (Below.refl _ _).alloc (Nat.le_refl _) _ | exact ((Below.refl _ _).alloc (Nat.le_refl _) _).alloc (by simp) _⟩
    · have HE := Lib.hid (show ltB c a d b = false from decide_eq_false (by unfold ltP; omega))
      go_enter Tryz.func82, Tryz.ntmps82
      go_wp2_with fail
      go_ret
      exact ⟨by rw [HE.out]; first | rfl | (go_simp; omega) | (simp; omega), by first | exact Below.refl _ _ | exact (Below.refl _ _).alloc (Nat.le_refl _) _ | exact ((Below.refl _ _).alloc (Nat.le_refl _) _).alloc (by simp) _⟩
end Go.Proofs.YtbhkfemebionnaaGreatDoor

namespace Go.Proofs.YtbhkfemebionnaaGreatDoor
open Go.RowKit

def valE (p l : Int) : Int := if (p = 0 ∧ 0 ≤ l ∧ l ≤ 65535) ∨ (-1 ≤ p ∧ p ≤ 1048576 ∧ p ≠ 0 ∧ l = 0) then 0 else 2
theorem valE_iff {p l : Int} : valE p l = 0 ↔ valOK p l := by
  unfold valE valOK
  by_cases h : (p = 0 ∧ 0 ≤ l ∧ l ≤ 65535) ∨ (-1 ≤ p ∧ p ≤ 1048576 ∧ p ≠ 0 ∧ l = 0)
  · rw [if_pos h]; exact ⟨fun _ => h, fun _ => rfl⟩
  · rw [if_neg h]; exact ⟨fun k => absurd k (by decide), fun k => absurd k h⟩
set_option maxHeartbeats 4000000 in
theorem rval_any (p l : Int) (w : World) :
    Calls Tryz.prog 81 #[.agg #[.int .i64 p, .int .i64 l]] w fun e w' => e = .returned (.int .i64 (valE p l)) ∧ Below w.heap.size w w' := by
  have HL := Lib.hid (fun w => rislev_any l w)
  by_cases h1 : p = 0
  · subst h1
    cases hv : inR l 65535
    · rw [hv] at HL
      have hn : ¬ (0 ≤ l ∧ l ≤ 65535) := of_decide_eq_false hv
      clear hv
      have HE := Lib.hid (show valE 0 l = 2 by unfold valE; rw [if_neg (fun h => h.elim (fun k => hn k.2) (fun k => k.2.2.1 rfl))])
      go_enter Tryz.func81, Tryz.ntmps81
      go_wp2_with (go_at_call 104; refine (HL.out _).mono ?_; rintro e w1 ⟨rfl, hb1⟩; have c0 := (hb1.cell (p := ⟨w.heap.size, 0, none⟩) (by simp)).trans (show _ = some (Value.int IntKind.i64 0) by rw [World.cell?_alloc_new]; rfl); have c1 := (hb1.cell (p := ⟨w.heap.size, 1, none⟩) (by simp)).trans (show _ = some (Value.int IntKind.i64 l) by rw [World.cell?_alloc_new]; rfl); have hbw := Nat.lt_of_lt_of_le (show w.heap.size < (w.alloc (.cells #[.int .i64 0, .int .i64 l] 41)).heap.size by simp) hb1.size)
      go_ret
      exact ⟨by rw [HE.out]; first | rfl | (go_simp; omega) | (simp; omega), ((Below.refl _ _).alloc (Nat.le_refl _) _).trans (hb1.mono (by simp))⟩
    · rw [hv] at HL
      have hn : (0 ≤ l ∧ l ≤ 65535) := of_decide_eq_true hv
      clear hv
      have HE := Lib.hid (show valE 0 l = 0 by unfold valE; rw [if_pos (Or.inl ⟨rfl, hn⟩)])
      go_enter Tryz.func81, Tryz.ntmps81
      go_wp2_with (go_at_call 104; refine (HL.out _).mono ?_; rintro e w1 ⟨rfl, hb1⟩; have c0 := (hb1.cell (p := ⟨w.heap.size, 0, none⟩) (by simp)).trans (show _ = some (Value.int IntKind.i64 0) by rw [World.cell?_alloc_new]; rfl); have c1 := (hb1.cell (p := ⟨w.heap.size, 1, none⟩) (by simp)).trans (show _ = some (Value.int IntKind.i64 l) by rw [World.cell?_alloc_new]; rfl); have hbw := Nat.lt_of_lt_of_le (show w.heap.size < (w.alloc (.cells #[.int .i64 0, .int .i64 l] 41)).heap.size by simp) hb1.size)
      go_ret
      exact ⟨by rw [HE.out]; first | rfl | (go_simp; omega) | (simp; omega), ((Below.refl _ _).alloc (Nat.le_refl _) _).trans (hb1.mono (by simp))⟩
  · have k1 : (p == 0) = false := by simpa using h1
    have k2 : (p != 0) = true := by simpa using h1
    by_cases h2 : p < -1
    · have HE := Lib.hid (show valE p l = 2 by unfold valE; rw [if_neg (by omega)])
      go_enter Tryz.func81, Tryz.ntmps81
      go_wp2_with fail
      go_ret
      exact ⟨by rw [HE.out]; first | rfl | (go_simp; omega) | (simp; omega), (Below.refl _ _).alloc (Nat.le_refl _) _⟩
    · by_cases h3 : 1048576 < p
      · have HE := Lib.hid (show valE p l = 2 by unfold valE; rw [if_neg (by omega)])
        go_enter Tryz.func81, Tryz.ntmps81
        go_wp2_with fail
        go_ret
        exact ⟨by rw [HE.out]; first | rfl | (go_simp; omega) | (simp; omega), (Below.refl _ _).alloc (Nat.le_refl _) _⟩
      · by_cases h4 : l = 0
        · subst h4
          have HE := Lib.hid (show valE p 0 = 0 by unfold valE; rw [if_pos (by omega)])
          go_enter Tryz.func81, Tryz.ntmps81
          go_wp2_with fail
          go_ret
          exact ⟨by rw [HE.out]; first | rfl | (go_simp; omega) | (simp; omega), (Below.refl _ _).alloc (Nat.le_refl _) _⟩
        · have k4 : (l == 0) = false := by simpa using h4
          have HE := Lib.hid (show valE p l = 2 by unfold valE; rw [if_neg (by omega)])
          go_enter Tryz.func81, Tryz.ntmps81
          go_wp2_with fail
          go_ret
          exact ⟨by rw [HE.out]; first | rfl | (go_simp; omega) | (simp; omega), (Below.refl _ _).alloc (Nat.le_refl _) _⟩
set_option maxHeartbeats 2000000 in
theorem nislev_any (c : Int) (w : World) :
    Calls Tryz.prog 123 #[.int .i64 c] w fun e w' => e = .returned (.bool (inR c 65535)) ∧ Below w.heap.size w w' := by
  by_cases h1 : c < 0
  · have HE := Lib.hid (show inR c 65535 = false from decide_eq_false (by omega))
    go_enter Tryz.func123, Tryz.ntmps123
    go_wp2_with fail
    go_ret
    exact ⟨by rw [HE.out]; first | rfl | (go_simp; omega) | (simp; omega), by first | exact Below.refl _ _ | exact (Below.refl _ _).alloc (Nat.le_refl _) _ | exact ((Below.refl _ _).alloc (Nat.le_refl _) _).alloc (by simp) _⟩
  · by_cases h2 : 65535 < c
    · have HE := Lib.hid (show inR c 65535 = false from decide_eq_false (by omega))
      go_enter Tryz.func123, Tryz.ntmps123
      go_wp2_with fail
      go_ret
      exact ⟨by rw [HE.out]; first | rfl | (go_simp; omega) | (simp; omega), by first | exact Below.refl _ _ | exact (Below.refl _ _).alloc (Nat.le_refl _) _ | exact ((Below.refl _ _).alloc (Nat.le_refl _) _).alloc (by simp) _⟩
    · have HE := Lib.hid (show inR c 65535 = true from decide_eq_true (by omega))
      go_enter Tryz.func123, Tryz.ntmps123
      go_wp2_with fail
      go_ret
      exact ⟨by rw [HE.out]; first | rfl | (go_simp; omega) | (simp; omega), by first | exact Below.refl _ _ | exact (Below.refl _ _).alloc (Nat.le_refl _) _ | exact ((Below.refl _ _).alloc (Nat.le_refl _) _).alloc (by simp) _⟩
set_option maxHeartbeats 4000000 in
theorem nval_any (p l : Int) (w : World) :
    Calls Tryz.prog 101 #[.agg #[.int .i64 p, .int .i64 l]] w fun e w' => e = .returned (.int .i64 (valE p l)) ∧ Below w.heap.size w w' := by
  have HL := Lib.hid (fun w => nislev_any l w)
  by_cases h1 : p = 0
  · subst h1
    cases hv : inR l 65535
    · rw [hv] at HL
      have hn : ¬ (0 ≤ l ∧ l ≤ 65535) := of_decide_eq_false hv
      clear hv
      have HE := Lib.hid (show valE 0 l = 2 by unfold valE; rw [if_neg (fun h => h.elim (fun k => hn k.2) (fun k => k.2.2.1 rfl))])
      go_enter Tryz.func101, Tryz.ntmps101
      go_wp2_with (go_at_call 123; refine (HL.out _).mono ?_; rintro e w1 ⟨rfl, hb1⟩; have c0 := (hb1.cell (p := ⟨w.heap.size, 0, none⟩) (by simp)).trans (show _ = some (Value.int IntKind.i64 0) by rw [World.cell?_alloc_new]; rfl); have c1 := (hb1.cell (p := ⟨w.heap.size, 1, none⟩) (by simp)).trans (show _ = some (Value.int IntKind.i64 l) by rw [World.cell?_alloc_new]; rfl); have hbw := Nat.lt_of_lt_of_le (show w.heap.size < (w.alloc (.cells #[.int .i64 0, .int .i64 l] 41)).heap.size by simp) hb1.size)
      go_ret
      exact ⟨by rw [HE.out]; first | rfl | (go_simp; omega) | (simp; omega), ((Below.refl _ _).alloc (Nat.le_refl _) _).trans (hb1.mono (by simp))⟩
    · rw [hv] at HL
      have hn : (0 ≤ l ∧ l ≤ 65535) := of_decide_eq_true hv
      clear hv
      have HE := Lib.hid (show valE 0 l = 0 by unfold valE; rw [if_pos (Or.inl ⟨rfl, hn⟩)])
      go_enter Tryz.func101, Tryz.ntmps101
      go_wp2_with (go_at_call 123; refine (HL.out _).mono ?_; rintro e w1 ⟨rfl, hb1⟩; have c0 := (hb1.cell (p := ⟨w.heap.size, 0, none⟩) (by simp)).trans (show _ = some (Value.int IntKind.i64 0) by rw [World.cell?_alloc_new]; rfl); have c1 := (hb1.cell (p := ⟨w.heap.size, 1, none⟩) (by simp)).trans (show _ = some (Value.int IntKind.i64 l) by rw [World.cell?_alloc_new]; rfl); have hbw := Nat.lt_of_lt_of_le (show w.heap.size < (w.alloc (.cells #[.int .i64 0, .int .i64 l] 41)).heap.size by simp) hb1.size)
      go_ret
      exact ⟨by rw [HE.out]; first | rfl | (go_simp; omega) | (simp; omega), ((Below.refl _ _).alloc (Nat.le_refl _) _).trans (hb1.mono (by simp))⟩
  · have k1 : (p == 0) = false := by simpa using h1
    have k2 : (p != 0) = true := by simpa using h1
    by_cases h2 : p < -1
    · have HE := Lib.hid (show valE p l = 2 by unfold valE; rw [if_neg (by omega)])
      go_enter Tryz.func101, Tryz.ntmps101
      go_wp2_with fail
      go_ret
      exact ⟨by rw [HE.out]; first | rfl | (go_simp; omega) | (simp; omega), (Below.refl _ _).alloc (Nat.le_refl _) _⟩
    · by_cases h3 : 1048576 < p
      · have HE := Lib.hid (show valE p l = 2 by unfold valE; rw [if_neg (by omega)])
        go_enter Tryz.func101, Tryz.ntmps101
        go_wp2_with fail
        go_ret
        exact ⟨by rw [HE.out]; first | rfl | (go_simp; omega) | (simp; omega), (Below.refl _ _).alloc (Nat.le_refl _) _⟩
      · by_cases h4 : l = 0
        · subst h4
          have HE := Lib.hid (show valE p 0 = 0 by unfold valE; rw [if_pos (by omega)])
          go_enter Tryz.func101, Tryz.ntmps101
          go_wp2_with fail
          go_ret
          exact ⟨by rw [HE.out]; first | rfl | (go_simp; omega) | (simp; omega), (Below.refl _ _).alloc (Nat.le_refl _) _⟩
        · have k4 : (l == 0) = false := by simpa using h4
          have HE := Lib.hid (show valE p l = 2 by unfold valE; rw [if_neg (by omega)])
          go_enter Tryz.func101, Tryz.ntmps101
          go_wp2_with fail
          go_ret
          exact ⟨by rw [HE.out]; first | rfl | (go_simp; omega) | (simp; omega), (Below.refl _ _).alloc (Nat.le_refl _) _⟩
end Go.Proofs.YtbhkfemebionnaaGreatDoor
