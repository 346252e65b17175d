/- Lemmas and contracts of functions, joined for the claim: GLevel, GCheck, GAt, GGo, HRef, HRef2, HRef3, GText, GLine. -/
import Derived.Test.YtjnhdimllllgaaaGreatDoorGQuo
import Derived.Test.YtjnhdimllllgaaaGreatDoorGLevA
import Derived.Test.YtjnhdimllllgaaaGreatDoorGRat
import Derived.IntWalk
import Derived.Laws.ResultCell
import Derived.Test.YtjnhdimllllgaaaGreatDoorGWord
import Derived.Test.YtjnhdimllllgaaaGreatDoorGPlain
namespace Go.Proofs.YtjnhdimllllgaaaGreatDoor
open Go.RowKit

theorem Is.fresh (w : World) (l : List Int) (t : TypeId) (cs : Array Value) (hcs : cs.toList = iv l) : Is (w.alloc (.cells cs t)) (some ⟨w.heap.size, 0, none⟩) l.length l := by
  refine ⟨rfl, by simp [iv], fun _ => ⟨w.heap.size, 0, rfl, by simp, fun j u hu => ?_⟩⟩
  rw [Nat.zero_add, World.cell?_alloc_new, ← Array.getElem?_toList, hcs]
  exact hu

def inT (L v : Int) : Bool := decide (0 ≤ v) && decide (v ≤ L)
theorem gall_take {α : Type} {f : α → Bool} {l : List α} {k : Nat} (hk : k < l.length) (h : (l.take k).all f = true) : (f l[k] = false → l.all f = false) ∧ (f l[k] = true → (l.take (k + 1)).all f = true) := by
  constructor
  · intro h1
    refine Bool.eq_false_iff.2 fun h2 => ?_
    have := List.all_eq_true.1 h2 l[k] (List.getElem_mem hk)
    rw [h1] at this; cases this
  · intro h1
    rw [List.take_succ_eq_append_getElem hk, List.all_append, h]
    simp [h1]
set_option maxRecDepth 100000 in
set_option maxHeartbeats 1000000 in
theorem gwithin_any (A : Option Addr) (n c : Nat) (L : Int) (l : List Int) (w : World) (hl : Is w A n l) (hn : n ≤ 1000) :
    Calls Tryz.prog 58 #[.int .i64 L, .slice A n c] w fun e w' => e = .returned (.bool (l.all (inT L))) ∧ Below w.heap.size w w' := by
  obtain ⟨rfl, _⟩ := id hl
  obtain ⟨r, hr⟩ : ∃ r, r = l.all (inT L) := ⟨_, rfl⟩
  rw [← hr]
  have HR := Lib.hid hr
  clear hr
  go_enter Tryz.func58, Tryz.ntmps58
  go_wp2
  go_loopw [9] (fun iv wr => ∃ k : Nat, k ≤ l.length ∧ iv = .int .i64 k ∧ (l.take k).all (inT L) = true ∧ Below w.heap.size w wr) (fun iv _ => l.length - (intOf iv).toNat)
  case atStart => exact ⟨0, Nat.zero_le _, rfl, by simp, Below.refl _ _⟩
  case round =>
    obtain ⟨k, hk, rfl, hall, hB⟩ := hrel
    by_cases hlt : k < l.length
    · obtain ⟨b, o, rfl, _, hc⟩ := (hl.below hB).at1 hlt
      obtain ⟨hf, ht⟩ := gall_take hlt hall
      have hd : inT L l[k] = (decide (0 ≤ l[k]) && decide (l[k] ≤ L)) := rfl
      generalize l[k] = v at *
      have HT := Lib.hid ht
      clear ht
      by_cases g1 : v < 0
      · have hr := HR.out.trans (hf (by rw [hd]; simp; omega))
        clear HR
        subst hr
        clear hf hd hall
        go_wp2
        go_ret
        exact ⟨rfl, hB⟩
      · by_cases g2 : L < v
        · have hr := HR.out.trans (hf (by rw [hd]; simp; omega))
          clear HR
          subst hr
          clear hf hd hall
          go_wp2
          go_ret
          exact ⟨rfl, hB⟩
        · have hn := Lib.hid (HT.out (by rw [hd]; simp; omega))
          clear hf hd hall
          go_wp2
          go_roundw
          case rel => exact ⟨k + 1, by omega, by go_num, hn.out, hB⟩
          case measure => simp [intOf]; omega
    · obtain rfl : k = l.length := by omega
      have hr : r = true := by rw [List.take_length] at hall; exact HR.out.trans hall
      clear HR
      subst hr
      clear hall
      go_wp2
      go_ret
      exact ⟨rfl, hB⟩
theorem inL_ord2 {r : Rat} : InL r ↔ (¬ 0 < ordR 0 r ∧ ¬ 0 < ordR r ((65535 : Int) : Rat)) := by
  rw [ordR_pos, ordR_pos, max_cast]
  exact ⟨fun h => ⟨Rat.not_lt.2 h.1, Rat.not_lt.2 h.2⟩, fun h => ⟨Rat.not_lt.1 h.1, Rat.not_lt.1 h.2⟩⟩
set_option maxRecDepth 100000 in
set_option maxHeartbeats 4000000 in
theorem glevel_any (s : ByteArray) (w : World) (hs : s.size ≤ 1000) (ht : Tab w) :
    Calls Tryz.prog 66 #[.string s] w fun e w' => e = .returned (.int .i64 (errLv s.data.toList)) ∧ Below w.heap.size w w' := by
  have hB := Below.refl w.heap.size w
  have HT := Lib.hid ht
  have hC := fun w ht => qcheck_any s w (by omega) ht
  rcases lev_cases s hs with ⟨hc, he⟩ | ⟨r, hr, hz, hv, hc, ho⟩
  · rw [he]
    generalize chkR s.data.toList = k at *
    have g1 : (k == 0) = false := by simpa using hc
    have g2 : (k != 0) = true := by simpa using hc
    have HC := Lib.hid hC
    clear hC hc he ht
    go_enter Tryz.func66, Tryz.ntmps66
    go_wp2_with (go_at_call 89; with_reducible refine (HC.out _ (HT.out.below hB)).mono ?_; rintro e wk ⟨rfl, hb⟩; replace hB := hB.trans (hb.mono hB.size); clear hb)
    go_ret
    exact ⟨rfl, hB⟩
  · rw [hc] at hC
    have HC := Lib.hid hC
    subst hr
    have HW0 := Lib.hid (fun w ht => qwhole_fit (x := 0) (by omega) (by omega) w ht)
    have HW1 := Lib.hid (fun w ht => qwhole_fit (x := 65535) (by omega) (by omega) w ht)
    rw [show ((0 : Int) : Rat) = 0 from rfl] at HW0
    have HO1 := Lib.hid (fun w ht => qcompare_fit sz_zero hz w ht (by omega))
    have HO2 := Lib.hid (fun w ht => qcompare_fit hz sz_max w ht (by omega))
    have hin := inL_ord2 (r := r)
    generalize errLv (sR r).data.toList = err at *
    generalize ordR r ((65535 : Int) : Rat) = o2 at *
    generalize ordR 0 r = o1 at *
    generalize sR ((65535 : Int) : Rat) = S2 at *
    generalize sR 0 = S0 at *
    generalize sR r = S at *
    have HErr := Lib.hid (show (¬ InL r ∧ err = 2) ∨ (InL r ∧ err = 0) from ho)
    have HIn := Lib.hid hin
    clear hC hc hz hv hs ht ho hin
    go_enter Tryz.func66, Tryz.ntmps66
    go_wp2_with (first | (go_at_call 89; with_reducible refine (HC.out _ (HT.out.below hB)).mono ?_; rintro e wk ⟨rfl, hb⟩; replace hB := hB.trans (hb.mono hB.size); clear hb) | (go_at_call 63; with_reducible refine (HW0.out _ (HT.out.below hB)).mono ?_; rintro e wk ⟨rfl, hb⟩; replace hB := hB.trans (hb.mono hB.size); clear hb) | (go_at_call 63; with_reducible refine (HW1.out _ (HT.out.below hB)).mono ?_; rintro e wk ⟨rfl, hb⟩; replace hB := hB.trans (hb.mono hB.size); clear hb))
    go_loopw [20] (fun iv wr => (iv = .int .i64 0 ∨ (iv = .int .i64 1 ∧ ¬ 0 < o1) ∨ (iv = .int .i64 2 ∧ ¬ 0 < o1 ∧ ¬ 0 < o2)) ∧ Below w.heap.size w wr) (fun iv _ => 2 - (intOf iv).toNat)
    case atStart => exact ⟨.inl rfl, hB⟩
    case round =>
      obtain ⟨hiv, hB⟩ := hrel
      have I0 : (Instr.index 131 (.agg #[.string S0, .string S, .string S, .string S2]) (.int .i64 0)).run Tryz.prog wr = .ok (.agg #[.string S0, .string S]) wr := by rfl
      have I1 : (Instr.index 131 (.agg #[.string S0, .string S, .string S, .string S2]) (.int .i64 1)).run Tryz.prog wr = .ok (.agg #[.string S, .string S2]) wr := by rfl
      rcases hiv with rfl | ⟨rfl, g1⟩ | ⟨rfl, g1, g2⟩
      · by_cases g : 0 < o1
        · have he : err = 2 := by
            rcases HErr.out with ⟨_, e⟩ | ⟨h, _⟩
            · exact e
            · have := (HIn.out.1 h).1; omega
          subst he
          go_wp2_with (go_at_call 90; with_reducible refine (HO1.out _ (HT.out.below (hB.alloc hB.size _))).mono ?_; rintro e wk ⟨rfl, hb⟩; replace hB := (hB.alloc hB.size _).trans (hb.mono (hB.alloc hB.size _).size); clear hb)
          go_ret
          exact ⟨rfl, hB⟩
        · go_wp2_with (go_at_call 90; with_reducible refine (HO1.out _ (HT.out.below (hB.alloc hB.size _))).mono ?_; rintro e wk ⟨rfl, hb⟩; replace hB := (hB.alloc hB.size _).trans (hb.mono (hB.alloc hB.size _).size); clear hb)
          go_roundw
          case rel => exact ⟨.inr (.inl ⟨by go_num, by omega⟩), hB⟩
          case measure => first | (simp [intOf]; omega) | simp [intOf]
      · by_cases g : 0 < o2
        · have he : err = 2 := by
            rcases HErr.out with ⟨_, e⟩ | ⟨h, _⟩
            · exact e
            · have := (HIn.out.1 h).2; omega
          subst he
          go_wp2_with (go_at_call 90; with_reducible refine (HO2.out _ (HT.out.below (hB.alloc hB.size _))).mono ?_; rintro e wk ⟨rfl, hb⟩; replace hB := (hB.alloc hB.size _).trans (hb.mono (hB.alloc hB.size _).size); clear hb)
          go_ret
          exact ⟨rfl, hB⟩
        · go_wp2_with (go_at_call 90; with_reducible refine (HO2.out _ (HT.out.below (hB.alloc hB.size _))).mono ?_; rintro e wk ⟨rfl, hb⟩; replace hB := (hB.alloc hB.size _).trans (hb.mono (hB.alloc hB.size _).size); clear hb)
          go_roundw
          case rel => exact ⟨.inr (.inr ⟨by go_num, by omega, by omega⟩), hB⟩
          case measure => first | (simp [intOf]; omega) | simp [intOf]
      · have he : err = 0 := by
          rcases HErr.out with ⟨h, _⟩ | ⟨_, e⟩
          · exact absurd (HIn.out.2 ⟨by omega, by omega⟩) h
          · exact e
        subst he
        go_wp2
        go_ret
        exact ⟨rfl, hB⟩
end Go.Proofs.YtjnhdimllllgaaaGreatDoor

namespace Go.Proofs.YtjnhdimllllgaaaGreatDoor
open Go.RowKit

def errG (s : BT) (v st ti : Int) : Int := if errLv s ≠ 0 then errLv s else if (inT 65535 v && (inT 10000000 st && inT 10000000 ti)) = true then 0 else 2
def glV (s : ByteArray) (v st ti : Int) : Value := .agg #[.string s, .int .i64 v, .int .i64 st, .int .i64 ti]
theorem gwithin_one (L a : Int) (w : World) :
    Calls Tryz.prog 58 #[.int .i64 L, .slice (some ⟨w.heap.size, 0, none⟩) 1 1] (w.alloc (.cells #[.int .i64 a] 3)) fun e w' => e = .returned (.bool (inT L a)) ∧ Below w.heap.size w w' := by
  have h := gwithin_any (some ⟨w.heap.size, 0, none⟩) 1 1 L [a] _ (Is.fresh w [a] 3 #[.int .i64 a] rfl) (by decide)
  refine h.mono ?_
  rintro e w1 ⟨rfl, hb⟩
  have hs := (Below.refl w.heap.size w).alloc (Nat.le_refl _) (.cells #[.int .i64 a] 3)
  exact ⟨by simp, hs.trans (hb.mono hs.size)⟩
theorem gwithin_two (L a b : Int) (w : World) :
    Calls Tryz.prog 58 #[.int .i64 L, .slice (some ⟨w.heap.size, 0, none⟩) 2 2] (w.alloc (.cells #[.int .i64 a, .int .i64 b] 3)) fun e w' => e = .returned (.bool (inT L a && inT L b)) ∧ Below w.heap.size w w' := by
  have h := gwithin_any (some ⟨w.heap.size, 0, none⟩) 2 2 L [a, b] _ (Is.fresh w [a, b] 3 #[.int .i64 a, .int .i64 b] rfl) (by decide)
  refine h.mono ?_
  rintro e w1 ⟨rfl, hb⟩
  have hs := (Below.refl w.heap.size w).alloc (Nat.le_refl _) (.cells #[.int .i64 a, .int .i64 b] 3)
  exact ⟨by simp, hs.trans (hb.mono hs.size)⟩

structure GBx (s : ByteArray) (v st ti : Int) (P : Nat) (w : World) : Prop where
  lt : P < w.heap.size
  c0 : w.cell? ⟨P, 0, none⟩ = some (.string s)
  c1 : w.cell? ⟨P, 1, none⟩ = some (.int .i64 v)
  c2 : w.cell? ⟨P, 2, none⟩ = some (.int .i64 st)
  c3 : w.cell? ⟨P, 3, none⟩ = some (.int .i64 ti)
theorem GBx.fresh (w : World) (s : ByteArray) (v st ti : Int) : GBx s v st ti w.heap.size (w.alloc (.cells #[.string s, .int .i64 v, .int .i64 st, .int .i64 ti] 24)) :=
  ⟨by simp, by rw [World.cell?_alloc_new]; rfl, by rw [World.cell?_alloc_new]; rfl, by rw [World.cell?_alloc_new]; rfl, by rw [World.cell?_alloc_new]; rfl⟩
theorem GBx.below {s : ByteArray} {v st ti : Int} {P : Nat} {w w' : World} (h : GBx s v st ti P w) (hP : P < w.heap.size) (hb : Below w.heap.size w w') : GBx s v st ti P w' := by
  obtain ⟨hcc, _⟩ := bcell hb
  exact ⟨Nat.lt_of_lt_of_le h.lt hb.size, (hcc _ _ hP).trans h.c0, (hcc _ _ hP).trans h.c1, (hcc _ _ hP).trans h.c2, (hcc _ _ hP).trans h.c3⟩
set_option maxRecDepth 100000 in
set_option maxHeartbeats 4000000 in
theorem gcheck_any (s : ByteArray) (v st ti : Int) (w : World) (hs : s.size ≤ 1000) (ht : Tab w) :
    Calls Tryz.prog 29 #[.agg #[.string s, .int .i64 v, .int .i64 st, .int .i64 ti]] w fun e w' => e = .returned (.int .i64 (errG s.data.toList v st ti)) ∧ Below w.heap.size w w' := by
  have HT := Lib.hid ht
  have HL := Lib.hid (fun w ht => glevel_any s w hs ht)
  have HW1 := Lib.hid (fun w => gwithin_one 65535 v w)
  have HW2 := Lib.hid (fun w => gwithin_two 10000000 st ti w)
  have HV := Lib.hid (show errG s.data.toList v st ti = if errLv s.data.toList ≠ 0 then errLv s.data.toList else if (inT 65535 v && (inT 10000000 st && inT 10000000 ti)) = true then 0 else 2 from rfl)
  generalize errG s.data.toList v st ti = k at *
  generalize errLv s.data.toList = k1 at *
  generalize inT 65535 v = b1 at *
  generalize (inT 10000000 st && inT 10000000 ti) = b2 at *
  obtain ⟨W, hW⟩ : ∃ W, W = w.alloc (.cells #[.string s, .int .i64 v, .int .i64 st, .int .i64 ti] 24) := ⟨_, rfl⟩
  have hG := GBx.fresh w s v st ti
  have hB0 : Below w.heap.size w W := by rw [hW]; exact (Below.refl _ w).alloc (Nat.le_refl _) _
  rw [← hW] at hG
  have HP := Lib.hid hG.lt
  have HT := Lib.hid (ht.below hB0)
  have HG := Lib.hid hG
  have HW := Lib.hid hW
  have HB0 := Lib.hid hB0
  clear hs ht hW hG hB0
  have hB := Below.refl W.heap.size W
  by_cases h1 : k1 = 0
  · subst h1
    cases b1 <;> cases b2
    all_goals
      have hv := HV.out
      simp at hv
      subst hv
      clear HV
      go_enter Tryz.func29, Tryz.ntmps29
      go_wp2_with fail
      rw [← HW.out]
      go_wp2_with (first | (go_at_call 66; with_reducible refine (HL.out _ (HT.out.below hB)).mono ?_; rintro e wk ⟨rfl, hb⟩; replace hB := hB.trans (hb.mono hB.size); clear hb; obtain ⟨-, c0, c1, c2, c3⟩ := HG.out.below HP.out hB) | (go_at_call 58; with_reducible refine (HW1.out _).mono ?_; rintro e wk ⟨rfl, hb⟩; replace hB := hB.trans (hb.mono hB.size); clear hb; obtain ⟨-, c0, c1, c2, c3⟩ := HG.out.below HP.out hB) | (go_at_call 58; with_reducible refine (HW2.out _).mono ?_; rintro e wk ⟨rfl, hb⟩; replace hB := hB.trans (hb.mono hB.size); clear hb; obtain ⟨-, c0, c1, c2, c3⟩ := HG.out.below HP.out hB))
      go_ret
      exact ⟨rfl, HB0.out.trans (hB.mono HB0.out.size)⟩
  · have hv := HV.out
    rw [if_pos h1] at hv
    have g1 : (k1 == 0) = false := by simpa using h1
    have g2 : (k1 != 0) = true := by simpa using h1
    clear HV h1
    subst hv
    go_enter Tryz.func29, Tryz.ntmps29
    go_wp2_with fail
    rw [← HW.out]
    go_wp2_with (first | (go_at_call 66; with_reducible refine (HL.out _ (HT.out.below hB)).mono ?_; rintro e wk ⟨rfl, hb⟩; replace hB := hB.trans (hb.mono hB.size); clear hb; obtain ⟨-, c0, c1, c2, c3⟩ := HG.out.below HP.out hB))
    go_ret
    exact ⟨rfl, HB0.out.trans (hB.mono HB0.out.size)⟩
end Go.Proofs.YtjnhdimllllgaaaGreatDoor

namespace Go.Proofs.YtjnhdimllllgaaaGreatDoor
open Go.RowKit

set_option maxHeartbeats 1000000 in
theorem gbetween_fit {k m : Nat} {a b : Rat} (ha : SzR k a) (hb : SzR m b) {p q : Int} (p0 : 0 ≤ p) (p1 : p ≤ 20000000) (q0 : 0 < q) (q1 : q ≤ 20000000) (h : k + (m + k + 1 + 8) + 1 ≤ 4096) (w : World) (ht : Tab w) :
    Calls Tryz.prog 65 #[.string (sR a), .string (sR b), .int .i64 p, .int .i64 q] w fun e w' => e = .returned (.tuple #[.string (sR (mixR a b (Rat.divInt p q))), .int .i64 0]) ∧ Below w.heap.size w w' := by
  have hB := Below.refl w.heap.size w
  have HT := Lib.hid ht
  have hn : SzR 8 (Rat.divInt p q) := SzR.red (by omega) (by omega) (by omega)
  have HPa := Lib.hid (fun w ht => qpart_fit (x := p) (y := q) (by omega) (by omega) (by omega) (by omega) (by omega) w ht)
  have HM := Lib.hid (fun w ht => qmix_fit ha hb hn w ht h)
  generalize sR (mixR a b (Rat.divInt p q)) = R at *
  generalize sR (Rat.divInt p q) = V at *
  clear ha hb hn ht p0 p1 q0 q1 h
  go_enter Tryz.func65, Tryz.ntmps65
  go_wp2_with (first | (go_at_call 87; with_reducible refine (HPa.out _ (HT.out.below hB)).mono ?_; rintro e wk ⟨rfl, hb⟩; replace hB := hB.trans (hb.mono hB.size); clear hb) | (go_at_call 88; with_reducible refine (HM.out _ (HT.out.below hB)).mono ?_; rintro e wk ⟨rfl, hb⟩; replace hB := hB.trans (hb.mono hB.size); clear hb))
  go_ret2
  exact ⟨rfl, hB⟩

def ofT (s : ByteArray) (v st ti t : Int) : ByteArray := if st + ti ≤ t then sR (v : Rat) else if t ≤ st then s else sR (mixR (valR s.data.toList) (v : Rat) (Rat.divInt (t - st) ti))
theorem mix_zero (a b : Rat) (q : Int) : mixR a b (Rat.divInt 0 q) = a := by
  unfold mixR
  rw [Rat.zero_divInt]
  grind
theorem errG_zero {s : ByteArray} {v st ti : Int} (hs : s.size ≤ 1000) (h : errG s.data.toList v st ti = 0) :
    ∃ r, s = sR r ∧ SzR 1000 r ∧ valR s.data.toList = r ∧ InL r ∧ 0 ≤ v ∧ v ≤ 65535 ∧ 0 ≤ st ∧ st ≤ 10000000 ∧ 0 ≤ ti ∧ ti ≤ 10000000 := by
  unfold errG at h
  by_cases h1 : errLv s.data.toList = 0
  · rw [if_neg (by simpa using h1)] at h
    rcases lev_cases s hs with ⟨hc, he⟩ | ⟨r, hr, hz, hv, hc, ⟨hi, he⟩ | ⟨hi, he⟩⟩
    · omega
    · omega
    · refine ⟨r, hr, hz, hv, hi, ?_⟩
      split at h
      · rename_i h2
        simp [inT] at h2
        omega
      · cases h
  · rw [if_pos h1] at h
    exact absurd h h1

def atT (s : ByteArray) (v st ti t : Int) : ByteArray := if errG s.data.toList v st ti ≠ 0 then ⟨#[]⟩ else ofT s v st ti t
set_option maxRecDepth 100000 in
set_option maxHeartbeats 4000000 in
theorem gat_any (s : ByteArray) (v st ti t : Int) (w : World) (hs : s.size ≤ 1000) (t0 : -9223372036854775808 ≤ t) (t1 : t ≤ 9223372036854775807) (ht : Tab w) :
    Calls Tryz.prog 28 #[.agg #[.string s, .int .i64 v, .int .i64 st, .int .i64 ti], .int .i64 t] w fun e w' => e = .returned (.tuple #[.string (atT s v st ti t), .int .i64 (errG s.data.toList v st ti)]) ∧ Below w.heap.size w w' := by
  have HC := Lib.hid (fun w ht => gcheck_any s v st ti w hs ht)
  obtain ⟨W, hW⟩ : ∃ W, W = w.alloc (.cells #[.string s, .int .i64 v, .int .i64 st, .int .i64 ti] 24) := ⟨_, rfl⟩
  have hG := GBx.fresh w s v st ti
  have hB0 : Below w.heap.size w W := by rw [hW]; exact (Below.refl _ w).alloc (Nat.le_refl _) _
  rw [← hW] at hG
  have HP := Lib.hid hG.lt
  have HT := Lib.hid (ht.below hB0)
  have HG := Lib.hid hG
  have HW := Lib.hid hW
  have HB0 := Lib.hid hB0
  have hB := Below.refl W.heap.size W
  obtain ⟨-, c0, c1, c2, c3⟩ := hG
  clear ht hW hB0
  by_cases h1 : errG s.data.toList v st ti = 0
  · obtain ⟨r, hr, hz, hv, hi, v0, v1, s0, s1, i0, i1⟩ := errG_zero hs h1
    have hV : atT s v st ti t = ofT s v st ti t := by unfold atT; rw [if_neg (by simpa using h1)]
    rw [hV]
    rw [h1] at HC ⊢
    by_cases g1 : t < st
    · have hV2 : ofT s v st ti t = s := by unfold ofT; rw [if_neg (by omega), if_pos (by omega)]
      rw [hV2]
      clear hr hz hv hi hV hV2 h1
      go_enter Tryz.func28, Tryz.ntmps28
      go_wp2_with fail
      rw [← HW.out]
      go_wp2_with (first | (go_at_call 29; with_reducible refine (HC.out _ (HT.out.below hB)).mono ?_; rintro e wk ⟨rfl, hb⟩; replace hB := hB.trans (hb.mono hB.size); clear hb; obtain ⟨-, c0, c1, c2, c3⟩ := HG.out.below HP.out hB))
      go_ret2
      exact ⟨rfl, HB0.out.trans (hB.mono HB0.out.size)⟩
    · by_cases g2 : st + ti ≤ t
      · have hV2 : ofT s v st ti t = sR (v : Rat) := by unfold ofT; rw [if_pos g2]
        rw [hV2]
        have HWh := Lib.hid (fun w ht => qwhole_fit (x := v) (by omega) (by omega) w ht)
        generalize sR (v : Rat) = R at *
        clear hr hz hv hi hV hV2 h1
        go_enter Tryz.func28, Tryz.ntmps28
        go_wp2_with fail
        rw [← HW.out]
        go_wp2_with (first | (go_at_call 29; with_reducible refine (HC.out _ (HT.out.below hB)).mono ?_; rintro e wk ⟨rfl, hb⟩; replace hB := hB.trans (hb.mono hB.size); clear hb; obtain ⟨-, c0, c1, c2, c3⟩ := HG.out.below HP.out hB) | (go_at_call 63; with_reducible refine (HWh.out _ (HT.out.below hB)).mono ?_; rintro e wk ⟨rfl, hb⟩; replace hB := hB.trans (hb.mono hB.size); clear hb; obtain ⟨-, c0, c1, c2, c3⟩ := HG.out.below HP.out hB))
        go_ret2
        exact ⟨rfl, HB0.out.trans (hB.mono HB0.out.size)⟩
      · have hV2 : ofT s v st ti t = sR (mixR r (v : Rat) (Rat.divInt (t - st) ti)) := by
          unfold ofT
          rw [if_neg g2]
          by_cases g3 : t ≤ st
          · rw [if_pos g3, show t - st = 0 by omega, mix_zero, hr]
          · rw [if_neg g3, hv]
        rw [hV2]
        have HWh := Lib.hid (fun w ht => qwhole_fit (x := v) (by omega) (by omega) w ht)
        have HBt := Lib.hid (fun w ht => gbetween_fit hz (SzR.int (k := 5) (z := v) (by omega) (by omega)) (p := t - st) (q := ti) (by omega) (by omega) (by omega) (by omega) (by omega) w ht)
        rw [← hr] at HBt
        generalize sR (mixR r (v : Rat) (Rat.divInt (t - st) ti)) = R at *
        generalize sR (v : Rat) = V at *
        have e1 : IntKind.i64.wrap (t - st) = t - st := IntWalk.i64_in _ (by omega)
        clear hr hz hv hi hV hV2 h1
        go_enter Tryz.func28, Tryz.ntmps28
        go_wp2_with fail
        rw [← HW.out]
        go_wp2_with (first | (go_at_call 29; with_reducible refine (HC.out _ (HT.out.below hB)).mono ?_; rintro e wk ⟨rfl, hb⟩; replace hB := hB.trans (hb.mono hB.size); clear hb; obtain ⟨-, c0, c1, c2, c3⟩ := HG.out.below HP.out hB))
        replace hB := below_drewN hB 1
        obtain ⟨-, c0, c1, c2, c3⟩ := HG.out.below HP.out hB
        go_region_held3 (fun w' => w'.cell? ⟨w.heap.size, 0, none⟩ = some (.string s) ∧ w'.cell? ⟨w.heap.size, 1, none⟩ = some (.int .i64 v) ∧ w'.cell? ⟨w.heap.size, 2, none⟩ = some (.int .i64 st) ∧ w'.cell? ⟨w.heap.size, 3, none⟩ = some (.int .i64 ti)) (exact ⟨c0, c1, c2, c3⟩) (first | (go_at_call 65; refine (HBt.out _ (HT.out.below hB)).mono ?_; rintro e wk ⟨rfl, hb⟩; replace hB := hB.trans (hb.mono hB.size); clear hb; obtain ⟨-, c0, c1, c2, c3⟩ := HG.out.below HP.out hB) | (go_at_call 63; refine (HWh.out _ (HT.out.below hB)).mono ?_; rintro e wk ⟨rfl, hb⟩; replace hB := hB.trans (hb.mono hB.size); clear hb; obtain ⟨-, c0, c1, c2, c3⟩ := HG.out.below HP.out hB))
        go_wp2
        go_ret2
        exact ⟨rfl, HB0.out.trans (hB.mono HB0.out.size)⟩
  · have hV : atT s v st ti t = ⟨#[]⟩ := by unfold atT; rw [if_pos h1]
    rw [hV]
    generalize errG s.data.toList v st ti = k at *
    have g1 : (k == 0) = false := by simpa using h1
    have g2 : (k != 0) = true := by simpa using h1
    clear hV h1
    go_enter Tryz.func28, Tryz.ntmps28
    go_wp2_with fail
    rw [← HW.out]
    go_wp2_with (first | (go_at_call 29; with_reducible refine (HC.out _ (HT.out.below hB)).mono ?_; rintro e wk ⟨rfl, hb⟩; replace hB := hB.trans (hb.mono hB.size); clear hb; obtain ⟨-, c0, c1, c2, c3⟩ := HG.out.below HP.out hB))
    go_ret2
    exact ⟨rfl, HB0.out.trans (hB.mono HB0.out.size)⟩
end Go.Proofs.YtjnhdimllllgaaaGreatDoor

namespace Go.Proofs.YtjnhdimllllgaaaGreatDoor
open Go.RowKit

def doneT (s : ByteArray) (v st ti t : Int) : Bool := decide (errG s.data.toList v st ti = 0) && decide (st + ti ≤ t)
set_option maxRecDepth 100000 in
set_option maxHeartbeats 4000000 in
theorem gdone_any (s : ByteArray) (v st ti t : Int) (w : World) (hs : s.size ≤ 1000) (ht : Tab w) :
    Calls Tryz.prog 30 #[.agg #[.string s, .int .i64 v, .int .i64 st, .int .i64 ti], .int .i64 t] w fun e w' => e = .returned (.tuple #[.bool (doneT s v st ti t), .int .i64 (errG s.data.toList v st ti)]) ∧ Below w.heap.size w w' := by
  have HC := Lib.hid (fun w ht => gcheck_any s v st ti w hs ht)
  obtain ⟨W, hW⟩ : ∃ W, W = w.alloc (.cells #[.string s, .int .i64 v, .int .i64 st, .int .i64 ti] 24) := ⟨_, rfl⟩
  have hG := GBx.fresh w s v st ti
  have hB0 : Below w.heap.size w W := by rw [hW]; exact (Below.refl _ w).alloc (Nat.le_refl _) _
  rw [← hW] at hG
  have HP := Lib.hid hG.lt
  have HT := Lib.hid (ht.below hB0)
  have HG := Lib.hid hG
  have HW := Lib.hid hW
  have HB0 := Lib.hid hB0
  have hB := Below.refl W.heap.size W
  obtain ⟨-, c0, c1, c2, c3⟩ := hG
  clear ht hW hB0
  by_cases h1 : errG s.data.toList v st ti = 0
  · obtain ⟨r, hr, hz, hv, hi, v0, v1, s0, s1, i0, i1⟩ := errG_zero hs h1
    have hV : doneT s v st ti t = decide (st + ti ≤ t) := by unfold doneT; simp [h1]
    rw [hV]
    rw [h1] at HC ⊢
    clear hr hz hv hi hV h1
    by_cases g2 : st + ti ≤ t
    · rw [decide_eq_true g2]
      go_enter Tryz.func30, Tryz.ntmps30
      go_wp2_with fail
      rw [← HW.out]
      go_wp2_with (first | (go_at_call 29; with_reducible refine (HC.out _ (HT.out.below hB)).mono ?_; rintro e wk ⟨rfl, hb⟩; replace hB := hB.trans (hb.mono hB.size); clear hb; obtain ⟨-, c0, c1, c2, c3⟩ := HG.out.below HP.out hB))
      go_ret2
      exact ⟨rfl, HB0.out.trans (hB.mono HB0.out.size)⟩
    · rw [decide_eq_false g2]
      have g3 : decide (st + ti ≤ t) = false := decide_eq_false g2
      go_enter Tryz.func30, Tryz.ntmps30
      go_wp2_with fail
      rw [← HW.out]
      go_wp2_with (first | (go_at_call 29; with_reducible refine (HC.out _ (HT.out.below hB)).mono ?_; rintro e wk ⟨rfl, hb⟩; replace hB := hB.trans (hb.mono hB.size); clear hb; obtain ⟨-, c0, c1, c2, c3⟩ := HG.out.below HP.out hB))
      go_ret2
      exact ⟨by rw [← g3]; rfl, HB0.out.trans (hB.mono HB0.out.size)⟩
  · have hV : doneT s v st ti t = false := by unfold doneT; simp [h1]
    rw [hV]
    generalize errG s.data.toList v st ti = k at *
    have g1 : (k == 0) = false := by simpa using h1
    have g2 : (k != 0) = true := by simpa using h1
    clear hV h1
    go_enter Tryz.func30, Tryz.ntmps30
    go_wp2_with fail
    rw [← HW.out]
    go_wp2_with (first | (go_at_call 29; with_reducible refine (HC.out _ (HT.out.below hB)).mono ?_; rintro e wk ⟨rfl, hb⟩; replace hB := hB.trans (hb.mono hB.size); clear hb; obtain ⟨-, c0, c1, c2, c3⟩ := HG.out.below HP.out hB))
    go_ret2
    exact ⟨rfl, HB0.out.trans (hB.mono HB0.out.size)⟩

structure RCell (P : Nat) (w : World) : Prop where
  lt : P < w.heap.size
  k0 : w.cell? ⟨P, 0, none⟩ = some (.string ⟨#[]⟩)
  k1 : w.cell? ⟨P, 1, none⟩ = some (.int .i64 0)
  k2 : w.cell? ⟨P, 2, none⟩ = some (.int .i64 0)
  k3 : w.cell? ⟨P, 3, none⟩ = some (.int .i64 0)
  f0 : w.frozen? ⟨P, 0, none⟩ = false
  f1 : w.frozen? ⟨P, 1, none⟩ = false
  f2 : w.frozen? ⟨P, 2, none⟩ = false
  f3 : w.frozen? ⟨P, 3, none⟩ = false
theorem RCell.below {P : Nat} {w w' : World} (h : RCell P w) (hP : P < w.heap.size) (hb : Below w.heap.size w w') : RCell P w' := by
  obtain ⟨hcc, hcf⟩ := bcell hb
  exact ⟨Nat.lt_of_lt_of_le h.lt hb.size, (hcc _ _ hP).trans h.k0, (hcc _ _ hP).trans h.k1, (hcc _ _ hP).trans h.k2, (hcc _ _ hP).trans h.k3, (hcf _ _ hP).trans h.f0, (hcf _ _ hP).trans h.f1, (hcf _ _ hP).trans h.f2, (hcf _ _ hP).trans h.f3⟩
theorem RCell.fresh (w : World) (P : Nat) (h : P = w.heap.size) : RCell P (w.alloc (.cells #[.string ⟨#[]⟩, .int .i64 0, .int .i64 0, .int .i64 0] 24)) := by
  subst h
  exact ⟨by simp, by rw [World.cell?_alloc_new]; rfl, by rw [World.cell?_alloc_new]; rfl, by rw [World.cell?_alloc_new]; rfl, by rw [World.cell?_alloc_new]; rfl, World.frozen?_alloc_new .., World.frozen?_alloc_new .., World.frozen?_alloc_new .., World.frozen?_alloc_new ..⟩

def errGo (s : BT) (v st ti t u d : Int) : Int := if errG s v st ti ≠ 0 then errG s v st ti else if ((inT 10000000 t && inT 10000000 d) && inT 65535 u) = true then 0 else 2

def goT (s : ByteArray) (v st ti t u d : Int) : Value := if errGo s.data.toList v st ti t u d ≠ 0 then .agg #[.string ⟨#[]⟩, .int .i64 0, .int .i64 0, .int .i64 0] else .agg #[.string (ofT s v st ti t), .int .i64 u, .int .i64 t, .int .i64 d]
set_option maxRecDepth 100000 in
set_option maxHeartbeats 4000000 in
theorem ggo_any (s : ByteArray) (v st ti t u d : Int) (w : World) (hs : s.size ≤ 1000) (t0 : -9223372036854775808 ≤ t) (t1 : t ≤ 9223372036854775807) (ht : Tab w) :
    Calls Tryz.prog 14 #[.agg #[.string s, .int .i64 v, .int .i64 st, .int .i64 ti], .int .i64 t, .int .i64 u, .int .i64 d] w fun e w' => e = .returned (.tuple #[goT s v st ti t u d, .int .i64 (errGo s.data.toList v st ti t u d)]) ∧ Below w.heap.size w w' := by
  have HC := Lib.hid (fun w ht => gcheck_any s v st ti w hs ht)
  have hA := fun w ht => gat_any s v st ti t w hs t0 t1 ht
  have HW1 := Lib.hid (fun w => gwithin_two 10000000 t d w)
  have HW2 := Lib.hid (fun w => gwithin_one 65535 u w)
  obtain ⟨W, hW⟩ : ∃ W, W = (w.alloc (.cells #[.string s, .int .i64 v, .int .i64 st, .int .i64 ti] 24)).alloc (.cells #[.string ⟨#[]⟩, .int .i64 0, .int .i64 0, .int .i64 0] 24) := ⟨_, rfl⟩
  have hG := GBx.fresh w s v st ti
  have hb1 : Below w.heap.size w (w.alloc (.cells #[.string s, .int .i64 v, .int .i64 st, .int .i64 ti] 24)) := (Below.refl _ w).alloc (Nat.le_refl _) _
  have hB0 : Below w.heap.size w W := by rw [hW]; exact hb1.alloc hb1.size _
  have hG : GBx s v st ti w.heap.size W := by rw [hW]; exact hG.below hG.lt ((Below.refl _ _).alloc (Nat.le_refl _) _)
  have HR := Lib.hid (show RCell (w.heap.size + 1) W by
    rw [hW]
    exact RCell.fresh _ _ (by simp))
  have HP := Lib.hid hG.lt
  have HQ := Lib.hid HR.out.lt
  have HT := Lib.hid (ht.below hB0)
  have HG := Lib.hid hG
  have HW := Lib.hid hW
  have HB0 := Lib.hid hB0
  have hB := Below.refl W.heap.size W
  obtain ⟨-, c0, c1, c2, c3⟩ := hG
  clear hW hB0 hb1
  have hE : errGo s.data.toList v st ti t u d = if errG s.data.toList v st ti ≠ 0 then errG s.data.toList v st ti else if ((inT 10000000 t && inT 10000000 d) && inT 65535 u) = true then 0 else 2 := rfl
  have hV : goT s v st ti t u d = if errGo s.data.toList v st ti t u d ≠ 0 then .agg #[.string ⟨#[]⟩, .int .i64 0, .int .i64 0, .int .i64 0] else .agg #[.string (ofT s v st ti t), .int .i64 u, .int .i64 t, .int .i64 d] := rfl
  have hat : errG s.data.toList v st ti = 0 → atT s v st ti t = ofT s v st ti t := fun h => by unfold atT; rw [if_neg (by simpa using h)]
  generalize goT s v st ti t u d = R at *
  generalize errGo s.data.toList v st ti t u d = k at *
  generalize errG s.data.toList v st ti = k1 at *
  generalize (inT 10000000 t && inT 10000000 d) = b1 at *
  generalize inT 65535 u = b2 at *
  by_cases h1 : k1 = 0
  · rw [hat h1] at hA
    generalize ofT s v st ti t = S at *
    have HA := Lib.hid hA
    subst h1
    clear hA hat hs ht
    cases b1 <;> cases b2
    all_goals
      simp at hE
      subst hE
      simp at hV
      subst hV
      go_enter Tryz.func14, Tryz.ntmps14
      go_wp2_with fail
      rw [← HW.out]
      go_wp2_with (first | (go_at_call 29; with_reducible refine (HC.out _ (HT.out.below hB)).mono ?_; rintro e wk ⟨rfl, hb⟩; replace hB := hB.trans (hb.mono hB.size); clear hb; obtain ⟨-, c0, c1, c2, c3⟩ := HG.out.below HP.out hB; obtain ⟨-, k0, k1, k2, k3, f0, f1, f2, f3⟩ := HR.out.below HQ.out hB) | (go_at_call 58; with_reducible refine (HW1.out _).mono ?_; rintro e wk ⟨rfl, hb⟩; replace hB := hB.trans (hb.mono hB.size); clear hb; obtain ⟨-, c0, c1, c2, c3⟩ := HG.out.below HP.out hB; obtain ⟨-, k0, k1, k2, k3, f0, f1, f2, f3⟩ := HR.out.below HQ.out hB) | (go_at_call 58; with_reducible refine (HW2.out _).mono ?_; rintro e wk ⟨rfl, hb⟩; replace hB := hB.trans (hb.mono hB.size); clear hb; obtain ⟨-, c0, c1, c2, c3⟩ := HG.out.below HP.out hB; obtain ⟨-, k0, k1, k2, k3, f0, f1, f2, f3⟩ := HR.out.below HQ.out hB) | (go_at_call 28; with_reducible refine (HA.out _ (HT.out.below hB)).mono ?_; rintro e wk ⟨rfl, hb⟩; replace hB := hB.trans (hb.mono hB.size); clear hb; obtain ⟨-, c0, c1, c2, c3⟩ := HG.out.below HP.out hB; obtain ⟨-, k0, k1, k2, k3, f0, f1, f2, f3⟩ := HR.out.below HQ.out hB))
      have hb := HB0.out.trans (hB.mono HB0.out.size)
      have hn := hb.size
      (try simp only [Exit.inBlock, Exit.then])
      refine bodyPost_ret ?_ rfl ⟨rfl, ?_⟩
      · rw [results_cell_tmp rfl]
        go_simp
      · (repeat (first | exact Below.refl _ _ | assumption | apply Below.drew | apply below_drewN | (refine Below.alloc ?_ (by first | omega | (simp; omega) | simp) _) | (refine Below.setCell ?_ (by first | omega | (simp; omega) | simp) _) | (refine Below.trans ?_ (Below.mono (by assumption) (by first | omega | (simp; omega) | simp)))))
  · have g1 : (k1 == 0) = false := by simpa using h1
    have g2 : (k1 != 0) = true := by simpa using h1
    rw [if_pos h1] at hE
    rw [hE, if_pos h1] at hV
    subst hE
    subst hV
    clear hA hat hs ht h1
    go_enter Tryz.func14, Tryz.ntmps14
    go_wp2_with fail
    rw [← HW.out]
    go_wp2_with (first | (go_at_call 29; with_reducible refine (HC.out _ (HT.out.below hB)).mono ?_; rintro e wk ⟨rfl, hb⟩; replace hB := hB.trans (hb.mono hB.size); clear hb; obtain ⟨-, c0, c1, c2, c3⟩ := HG.out.below HP.out hB; obtain ⟨-, k0, k1, k2, k3, f0, f1, f2, f3⟩ := HR.out.below HQ.out hB))
    have hb := HB0.out.trans (hB.mono HB0.out.size)
    have hn := hb.size
    (try simp only [Exit.inBlock, Exit.then])
    refine bodyPost_ret ?_ rfl ⟨rfl, ?_⟩
    · rw [results_cell_tmp rfl]
      go_simp
    · (repeat (first | exact Below.refl _ _ | assumption | apply Below.drew | apply below_drewN | (refine Below.alloc ?_ (by first | omega | (simp; omega) | simp) _) | (refine Below.setCell ?_ (by first | omega | (simp; omega) | simp) _) | (refine Below.trans ?_ (Below.mono (by assumption) (by first | omega | (simp; omega) | simp)))))
end Go.Proofs.YtjnhdimllllgaaaGreatDoor

namespace Go.Proofs.YtjnhdimllllgaaaGreatDoor

def Gl.err (g : Gl) : Int := errG g.s.data.toList g.v g.st g.ti
def Gl.of (g : Gl) (t : Int) : ByteArray := ofT g.s g.v g.st g.ti t

def chS (p : Option Gl) (g : Gl) (rest : Int) : Int := if g.err ≠ 0 then g.err else
    match p with
    | none => rest
    | some q => if g.st < q.st then 9 else if g.s ≠ q.of g.st then 3 else rest
def chF : Option Gl → List Gl → Int
  | _, [] => 0
  | p, g :: r => chS p g (chF (some g) r)
theorem chF_nil (p : Option Gl) : chF p [] = 0 := by cases p <;> rfl
theorem chF_cons (p : Option Gl) (g : Gl) (r : List Gl) : chF p (g :: r) = if g.err ≠ 0 then g.err else
    match p with
    | none => chF (some g) r
    | some q => if g.st < q.st then 9 else if g.s ≠ q.of g.st then 3 else chF (some g) r := by cases p <;> rfl

def chT (l : List Gl) : Int := if 256 < l.length then 5 else chF none l
def prv (l : List Gl) (k : Nat) : Option Gl := if k = 0 then none else l[k - 1]?

def ChA (l : List Gl) (k : Nat) : Prop := chF (prv l k) (l.drop k) = chF none l ∧ ∀ j (h : j < l.length), j < k → l[j].err = 0
theorem chA_zero (l : List Gl) : ChA l 0 := ⟨rfl, fun _ _ h => absurd h (by omega)⟩
theorem chA_bad {l : List Gl} {k : Nat} (h : ChA l k) (hk : k < l.length) (he : l[k].err ≠ 0) : chF none l = l[k].err := by
  rw [← h.1, List.drop_eq_getElem_cons hk, chF_cons, if_pos he]
theorem prv_succ {l : List Gl} {j : Nat} (h : j < l.length) : prv l (j + 1) = some l[j] := by
  unfold prv
  rw [if_neg (by omega), Nat.add_sub_cancel, List.getElem?_eq_getElem h]
theorem chA_first {l : List Gl} (h : ChA l 0) (hk : 0 < l.length) (he : l[0].err = 0) : ChA l 1 := by
  refine ⟨?_, fun j hj h1 => ?_⟩
  · rw [← h.1, List.drop_eq_getElem_cons (i := 0) hk, chF_cons, if_neg (by simpa using he), prv_succ hk]
    rfl
  · obtain rfl : j = 0 := by omega
    exact he
theorem chA_next {l : List Gl} {j : Nat} (h : ChA l (j + 1)) (hk : j + 1 < l.length) (he : l[j + 1].err = 0) :
    (l[j + 1].st < (l[j]'(by omega)).st → chF none l = 9) ∧
    (¬ l[j + 1].st < (l[j]'(by omega)).st → l[j + 1].s ≠ (l[j]'(by omega)).of l[j + 1].st → chF none l = 3) ∧
    (¬ l[j + 1].st < (l[j]'(by omega)).st → l[j + 1].s = (l[j]'(by omega)).of l[j + 1].st → ChA l (j + 1 + 1)) := by
  have e := h.1
  rw [List.drop_eq_getElem_cons hk, chF_cons, if_neg (by simpa using he), prv_succ (by omega)] at e
  refine ⟨fun h1 => ?_, fun h1 h2 => ?_, fun h1 h2 => ⟨?_, fun i hi h3 => ?_⟩⟩
  · rw [← e]; simp only [if_pos h1]
  · rw [← e]; simp only [if_neg h1, if_pos h2]
  · rw [← e, prv_succ hk]; simp only [if_neg h1, if_neg (show ¬ (l[j + 1].s ≠ (l[j]'(by omega)).of l[j + 1].st) from fun hn => hn h2)]
  · by_cases h4 : i < j + 1
    · exact h.2 i hi h4
    · obtain rfl : i = j + 1 := by omega
      exact he
theorem chA_end {l : List Gl} {k : Nat} (h : ChA l k) (hk : ¬ k < l.length) : chF none l = 0 := by
  rw [← h.1, List.drop_eq_nil_of_le (by omega), chF_nil]

def ixT {α : Type} (f : α → Int) (l : List α) (t : Int) : Nat := (l.takeWhile fun a => decide (f a ≤ t)).length
theorem ixT_le {α : Type} (f : α → Int) (l : List α) (t : Int) : ixT f l t ≤ l.length := (List.takeWhile_prefix _).length_le
theorem ixT_lt {α : Type} {f : α → Int} : ∀ {l : List α} {t : Int} {j : Nat} (h : j < l.length), j < ixT f l t → f l[j] ≤ t
  | a :: l, t, j, h, hj => by
    unfold ixT at hj
    by_cases ha : f a ≤ t
    · rw [List.takeWhile_cons_of_pos (by simpa using ha)] at hj
      cases j with
      | zero => exact ha
      | succ j => exact ixT_lt (l := l) (by simpa using h) (by unfold ixT; simpa using hj)
    · rw [List.takeWhile_cons_of_neg (by simpa using ha)] at hj
      simp at hj
theorem ixT_at {α : Type} {f : α → Int} : ∀ {l : List α} {t : Int} (h : ixT f l t < l.length), t < f l[ixT f l t]
  | a :: l, t, h => by
    by_cases ha : f a ≤ t
    · have e : ixT f (a :: l) t = ixT f l t + 1 := by unfold ixT; rw [List.takeWhile_cons_of_pos (by simpa using ha)]; rfl
      have := ixT_at (f := f) (l := l) (t := t) (by rw [e] at h; simpa using h)
      simp only [e, List.getElem_cons_succ]
      exact this
    · have e : ixT f (a :: l) t = 0 := by unfold ixT; rw [List.takeWhile_cons_of_neg (by simpa using ha)]; rfl
      simp only [e, List.getElem_cons_zero]
      omega

theorem ixT_is {α : Type} {f : α → Int} {l : List α} {t : Int} {k : Nat} (hk : k ≤ l.length) (h1 : ∀ j (h : j < l.length), j < k → f l[j] ≤ t) (h2 : ∀ h : k < l.length, t < f l[k]) : ixT f l t = k := by
  rcases Nat.lt_trichotomy (ixT f l t) k with h | h | h
  · have := ixT_at (f := f) (l := l) (t := t) (by omega)
    have := h1 _ (by omega) h
    omega
  · exact h
  · have h3 := ixT_le f l t
    have := ixT_lt (f := f) (l := l) (t := t) (j := k) (by omega) h
    have := h2 (by omega)
    omega
theorem ixT_zero {α : Type} {f : α → Int} {l : List α} {t : Int} (h : ∀ h : 0 < l.length, t < f l[0]) : ixT f l t = 0 := ixT_is (Nat.zero_le _) (fun _ _ h => absurd h (by omega)) h
def nowT (l : List Gl) (t : Int) : Gl := l.getD (ixT (·.st) l t - 1) ⟨⟨#[]⟩, 0, 0, 0⟩

def errV (l : List Gl) : Int := if chT l ≠ 0 then chT l else if l.length = 0 then 12 else 0

def valL (l : List Gl) (t : Int) : ByteArray := if errV l ≠ 0 then ⟨#[]⟩ else (nowT l t).of t

theorem chF_up : ∀ {l : List Gl} {p : Option Gl}, chF p l = 0 → (∀ g ∈ l, g.err = 0) ∧ (∀ k (h : k + 1 < l.length), (l[k]'(by omega)).st ≤ l[k + 1].st ∧ l[k + 1].s = (l[k]'(by omega)).of l[k + 1].st) ∧ (∀ q, p = some q → ∀ h : 0 < l.length, q.st ≤ l[0].st ∧ l[0].s = q.of l[0].st)
  | [], p, _ => ⟨by simp, by simp, by simp⟩
  | g :: r, p, h => by
    rw [chF_cons] at h
    by_cases h1 : g.err ≠ 0
    · rw [if_pos h1] at h; exact absurd h h1
    rw [if_neg h1] at h
    have key : chF (some g) r = 0 ∧ ∀ q, p = some q → q.st ≤ g.st ∧ g.s = q.of g.st := by
      cases p with
      | none => exact ⟨h, fun q e => by cases e⟩
      | some q =>
        simp only at h
        by_cases h2 : g.st < q.st
        · rw [if_pos h2] at h; cases h
        rw [if_neg h2] at h
        by_cases h3 : g.s ≠ q.of g.st
        · rw [if_pos h3] at h; cases h
        rw [if_neg h3] at h
        refine ⟨h, fun q' e => ?_⟩
        injection e with e
        subst e
        exact ⟨by omega, Classical.not_not.1 h3⟩
    obtain ⟨i1, i2, i3⟩ := chF_up key.1
    refine ⟨fun x hx => ?_, fun k hk => ?_, fun q e _ => key.2 q e⟩
    · rcases List.mem_cons.1 hx with rfl | hx
      · exact Classical.not_not.1 h1
      · exact i1 x hx
    · cases k with
      | zero => exact i3 g rfl (by simpa using hk)
      | succ k => exact i2 k (by simpa using hk)
theorem st_up {l : List Gl} {p : Option Gl} (h : chF p l = 0) {i j : Nat} (hij : i ≤ j) (hj : j < l.length) : (l[i]'(by omega)).st ≤ l[j].st := by
  obtain ⟨-, h2, -⟩ := chF_up h
  induction j with
  | zero => obtain rfl : i = 0 := by omega
            exact Int.le_refl _
  | succ j ih =>
    by_cases e : i = j + 1
    · subst e; exact Int.le_refl _
    · exact Int.le_trans (ih (by omega) (by omega)) (h2 j hj).1

instance : DecidableEq Kn := fun a b => by
  cases a; cases b
  simp only [Kn.mk.injEq]
  infer_instance

def putK (out : List Kn) (k : Kn) : List Kn := if out.getLast? = some k then out else out ++ [k]
def stepK (out : List Kn) (g : Gl) (e : Bool) : List Kn := if e then putK (putK out ⟨g.st, g.s⟩) ⟨g.st + g.ti, sR (g.v : Rat)⟩ else putK out ⟨g.st, g.s⟩

def endsK (l : List Gl) (k : Nat) : Bool := match l[k]?, l[k + 1]? with
  | some g, some h => decide (g.st + g.ti ≤ h.st)
  | _, _ => true

def knK (l : List Gl) : Nat → List Kn
  | 0 => []
  | k + 1 => match l[k]? with
    | some g => stepK (knK l k) g (endsK l k)
    | none => knK l k
theorem knK_succ {l : List Gl} {k : Nat} (h : k < l.length) : knK l (k + 1) = stepK (knK l k) l[k] (endsK l k) := by rw [knK, List.getElem?_eq_getElem h]
def knT (l : List Gl) : List Kn := if chT l ≠ 0 then [] else knK l l.length

def knS (p : Option Kn) (k : Kn) (rest : Int) : Int := if inT 20000000 k.at_ = false then 2 else if errLv k.s.data.toList ≠ 0 then errLv k.s.data.toList else
    match p with
    | none => rest
    | some q => if k.at_ < q.at_ then 9 else rest
def knF : Option Kn → List Kn → Int
  | _, [] => 0
  | p, k :: r => knS p k (knF (some k) r)
theorem knF_nil (p : Option Kn) : knF p [] = 0 := by cases p <;> rfl
theorem knF_cons (p : Option Kn) (k : Kn) (r : List Kn) : knF p (k :: r) = if inT 20000000 k.at_ = false then 2 else if errLv k.s.data.toList ≠ 0 then errLv k.s.data.toList else
    match p with
    | none => knF (some k) r
    | some q => if k.at_ < q.at_ then 9 else knF (some k) r := by cases p <;> rfl
def bendT (l : List Kn) : Int := if l.length = 0 then 12 else if 512 < l.length then 5 else knF none l
def Kn.ok (k : Kn) : Prop := inT 20000000 k.at_ = true ∧ errLv k.s.data.toList = 0
def prK (l : List Kn) (k : Nat) : Option Kn := if k = 0 then none else l[k - 1]?
def KnA (l : List Kn) (k : Nat) : Prop := knF (prK l k) (l.drop k) = knF none l
theorem knA_zero (l : List Kn) : KnA l 0 := rfl
theorem prK_succ {l : List Kn} {j : Nat} (h : j < l.length) : prK l (j + 1) = some l[j] := by
  unfold prK
  rw [if_neg (by omega), Nat.add_sub_cancel, List.getElem?_eq_getElem h]
theorem knA_step {l : List Kn} {k : Nat} (h : KnA l k) (hk : k < l.length) :
    (inT 20000000 l[k].at_ = false → knF none l = 2) ∧ (inT 20000000 l[k].at_ = true → errLv l[k].s.data.toList ≠ 0 → knF none l = errLv l[k].s.data.toList) := by
  have e : knF (prK l k) (l.drop k) = knF none l := h
  rw [List.drop_eq_getElem_cons hk, knF_cons] at e
  refine ⟨fun h1 => ?_, fun h1 h2 => ?_⟩
  · rw [← e, if_pos h1]
  · rw [← e, if_neg (by simp [h1]), if_pos h2]
theorem knA_first {l : List Kn} (hk : 0 < l.length) (h1 : inT 20000000 l[0].at_ = true) (h2 : errLv l[0].s.data.toList = 0) : KnA l 1 := by
  unfold KnA
  rw [prK_succ hk]
  conv => rhs; rw [show l = l[0] :: l.drop 1 by rw [← List.drop_eq_getElem_cons hk]; rfl]
  rw [knF_cons, if_neg (by simp [h1]), if_neg (by simpa using h2)]
theorem knA_next {l : List Kn} {j : Nat} (h : KnA l (j + 1)) (hk : j + 1 < l.length) (h1 : inT 20000000 l[j + 1].at_ = true) (h2 : errLv l[j + 1].s.data.toList = 0) :
    (l[j + 1].at_ < (l[j]'(by omega)).at_ → knF none l = 9) ∧ (¬ l[j + 1].at_ < (l[j]'(by omega)).at_ → KnA l (j + 1 + 1)) := by
  have e : knF (prK l (j + 1)) (l.drop (j + 1)) = knF none l := h
  rw [List.drop_eq_getElem_cons hk, knF_cons, if_neg (by simp [h1]), if_neg (by simpa using h2), prK_succ (by omega)] at e
  refine ⟨fun h3 => ?_, fun h3 => ?_⟩
  · rw [← e]; simp only [if_pos h3]
  · unfold KnA
    rw [← e, prK_succ hk]; simp only [if_neg h3]
theorem knA_end {l : List Kn} {k : Nat} (h : KnA l k) (hk : ¬ k < l.length) : knF none l = 0 := by
  have e : knF (prK l k) (l.drop k) = knF none l := h
  rw [← e, List.drop_eq_nil_of_le (by omega), knF_nil]
theorem knF_up : ∀ {l : List Kn} {p : Option Kn}, knF p l = 0 → (∀ k ∈ l, k.ok) ∧ (∀ k (h : k + 1 < l.length), (l[k]'(by omega)).at_ ≤ l[k + 1].at_) ∧ (∀ q, p = some q → ∀ h : 0 < l.length, q.at_ ≤ l[0].at_)
  | [], p, _ => ⟨by simp, by simp, by simp⟩
  | g :: r, p, h => by
    rw [knF_cons] at h
    by_cases h1 : inT 20000000 g.at_ = false
    · rw [if_pos h1] at h; cases h
    rw [if_neg h1] at h
    by_cases h2 : errLv g.s.data.toList ≠ 0
    · rw [if_pos h2] at h; exact absurd h h2
    rw [if_neg h2] at h
    have key : knF (some g) r = 0 ∧ ∀ q, p = some q → q.at_ ≤ g.at_ := by
      cases p with
      | none => exact ⟨h, fun q e => by cases e⟩
      | some q =>
        simp only at h
        by_cases h2 : g.at_ < q.at_
        · rw [if_pos h2] at h; cases h
        rw [if_neg h2] at h
        refine ⟨h, fun q' e => ?_⟩
        injection e with e
        subst e
        omega
    obtain ⟨i1, i2, i3⟩ := knF_up key.1
    refine ⟨fun x hx => ?_, fun k hk => ?_, fun q e _ => key.2 q e⟩
    · rcases List.mem_cons.1 hx with rfl | hx
      · exact ⟨by simpa using h1, Classical.not_not.1 h2⟩
      · exact i1 x hx
    · cases k with
      | zero => exact i3 g rfl (by simpa using hk)
      | succ k => exact i2 k (by simpa using hk)
theorem at_up {l : List Kn} (h2 : ∀ k (h : k + 1 < l.length), (l[k]'(by omega)).at_ ≤ l[k + 1].at_) {i j : Nat} (hij : i ≤ j) (hj : j < l.length) : (l[i]'(by omega)).at_ ≤ l[j].at_ := by
  induction j with
  | zero => obtain rfl : i = 0 := by omega
            exact Int.le_refl _
  | succ j ih =>
    by_cases e : i = j + 1
    · subst e; exact Int.le_refl _
    · exact Int.le_trans (ih (by omega) (by omega)) (h2 j hj)
def noK : Kn := ⟨0, ⟨#[]⟩⟩

def rdT (l : List Kn) (t : Int) : ByteArray :=
  let i := ixT (·.at_) l t
  if i = 0 then (l.getD 0 noK).s else if i = l.length then (l.getD (i - 1) noK).s
  else sR (mixR (valR (l.getD (i - 1) noK).s.data.toList) (valR (l.getD i noK).s.data.toList) (Rat.divInt (t - (l.getD (i - 1) noK).at_) ((l.getD i noK).at_ - (l.getD (i - 1) noK).at_)))
def readT (l : List Kn) (t : Int) : ByteArray := if bendT l ≠ 0 then ⟨#[]⟩ else rdT l t
end Go.Proofs.YtjnhdimllllgaaaGreatDoor

namespace Go.Proofs.YtjnhdimllllgaaaGreatDoor

theorem val_sR (r : Rat) : valR (sR r).data.toList = r := by rw [sR_list, valR_rT]
theorem div_back {p q : Int} (h : 0 < q) : Rat.divInt p q * (q : Rat) = (p : Rat) := by
  have hq : (q : Rat) ≠ 0 := by have := cast_pos h; grind
  rw [Rat.divInt_eq_div, Rat.div_def, Rat.mul_assoc, Rat.inv_mul_cancel _ hq, Rat.mul_one]

def wayR (st ti t : Int) : Rat := if st + ti ≤ t then 1 else if t ≤ st then 0 else Rat.divInt (t - st) ti
theorem way_bd {st ti t : Int} (h : 0 ≤ ti) : 0 ≤ wayR st ti t ∧ wayR st ti t ≤ 1 := by
  unfold wayR
  by_cases h1 : st + ti ≤ t
  · rw [if_pos h1]; exact ⟨by decide, by decide⟩
  · rw [if_neg h1]
    by_cases h2 : t ≤ st
    · rw [if_pos h2]; exact ⟨by decide, by decide⟩
    · rw [if_neg h2]
      have hq : 0 < ti := by omega
      have e := div_back (p := t - st) hq
      have hp := cast_pos hq
      have a0 : (0 : Rat) ≤ ((t - st : Int) : Rat) := (cast_le (a := 0)).2 (by omega)
      have a1 : ((t - st : Int) : Rat) ≤ (ti : Rat) := cast_le.2 (by omega)
      exact ⟨le_mul hp (by grind), le_mul hp (by grind)⟩
theorem way_up {st ti s t : Int} (h : 0 ≤ ti) (hs : s ≤ t) : wayR st ti s ≤ wayR st ti t := by
  by_cases h1 : st + ti ≤ t
  · rw [show wayR st ti t = 1 from if_pos h1]; exact (way_bd h).2
  by_cases h2 : s ≤ st
  · rw [show wayR st ti s = 0 by unfold wayR; rw [if_neg (by omega), if_pos h2]]; exact (way_bd h).1
  unfold wayR
  rw [if_neg (by omega), if_neg (by omega), if_neg h1, if_neg (by omega)]
  have hq : 0 < ti := by omega
  have e1 := div_back (p := s - st) hq
  have e2 := div_back (p := t - st) hq
  have hp := cast_pos hq
  have a1 : ((s - st : Int) : Rat) ≤ ((t - st : Int) : Rat) := cast_le.2 (by omega)
  exact le_mul hp (by grind)

theorem way_near {st ti t : Int} (hq : 0 < ti) : (wayR st ti (t + 1) - wayR st ti t) * (ti : Rat) ≤ 1 := by
  have hp := cast_pos hq
  have e : ∀ t, wayR st ti t * (ti : Rat) = ((if st + ti ≤ t then ti else if t ≤ st then 0 else t - st : Int) : Rat) := by
    intro t
    unfold wayR
    by_cases h1 : st + ti ≤ t
    · rw [if_pos h1, if_pos h1, Rat.one_mul]
    · rw [if_neg h1, if_neg h1]
      by_cases h2 : t ≤ st
      · rw [if_pos h2, if_pos h2]; exact Rat.zero_mul _
      · rw [if_neg h2, if_neg h2]; exact div_back hq
  have e1 := e (t + 1)
  have e2 := e t
  have a : ((if st + ti ≤ t + 1 then ti else if t + 1 ≤ st then 0 else t + 1 - st : Int) : Rat) ≤ (((if st + ti ≤ t then ti else if t ≤ st then 0 else t - st : Int) + 1 : Int) : Rat) := cast_le.2 (by split <;> split <;> (try split) <;> (try split) <;> omega)
  rw [Rat.intCast_add] at a
  have o : ((1 : Int) : Rat) = 1 := rfl
  grind
theorem mix_up {a b x y : Rat} (h : a ≤ b) (hx : x ≤ y) : mixR a b x ≤ mixR a b y := by
  unfold mixR
  have := Rat.mul_nonneg (a := b - a) (b := y - x) (by grind) (by grind)
  grind
theorem mix_down {a b x y : Rat} (h : b ≤ a) (hx : x ≤ y) : mixR a b y ≤ mixR a b x := by
  unfold mixR
  have := Rat.mul_nonneg (a := a - b) (b := y - x) (by grind) (by grind)
  grind
theorem mix_0 (a b : Rat) : mixR a b 0 = a := by unfold mixR; grind
theorem mix_1 (a b : Rat) : mixR a b 1 = b := by unfold mixR; grind
theorem mix_same (a w : Rat) : mixR a a w = a := by unfold mixR; grind

def lvR (r : Rat) (v st ti t : Int) : Rat := mixR r (v : Rat) (wayR st ti t)
theorem ofT_lv {r : Rat} {v st ti t : Int} : ofT (sR r) v st ti t = sR (lvR r v st ti t) := by
  unfold ofT lvR wayR
  by_cases h1 : st + ti ≤ t
  · rw [if_pos h1, if_pos h1, mix_1]
  · rw [if_neg h1, if_neg h1]
    by_cases h2 : t ≤ st
    · rw [if_pos h2, if_pos h2, mix_0]
    · rw [if_neg h2, if_neg h2, val_sR]

theorem lv_bd {r : Rat} {v st ti t : Int} (h : 0 ≤ ti) : (r ≤ (v : Rat) → r ≤ lvR r v st ti t ∧ lvR r v st ti t ≤ (v : Rat)) ∧ ((v : Rat) ≤ r → (v : Rat) ≤ lvR r v st ti t ∧ lvR r v st ti t ≤ r) := by
  obtain ⟨w0, w1⟩ := way_bd (st := st) (t := t) h
  unfold lvR
  refine ⟨fun h1 => ?_, fun h1 => ?_⟩
  · have a := mix_up h1 w0
    have b := mix_up h1 w1
    rw [mix_0] at a; rw [mix_1] at b
    exact ⟨a, b⟩
  · have a := mix_down h1 w0
    have b := mix_down h1 w1
    rw [mix_0] at a; rw [mix_1] at b
    exact ⟨b, a⟩
theorem lv_in {r : Rat} {v st ti t : Int} (h : 0 ≤ ti) (hi : InL r) (h0 : 0 ≤ v) (h1 : v ≤ 65535) : InL (lvR r v st ti t) := by
  have c0 : (0 : Rat) ≤ (v : Rat) := (cast_le (a := 0)).2 h0
  have c1 : (v : Rat) ≤ 65535 := (cast_le (b := 65535)).2 h1
  obtain ⟨a, b⟩ := lv_bd (r := r) (v := v) (st := st) (t := t) h
  obtain ⟨i0, i1⟩ := hi
  rcases Rat.le_total (a := r) (b := (v : Rat)) with h2 | h2
  · obtain ⟨a1, a2⟩ := a h2
    exact ⟨Rat.le_trans i0 a1, Rat.le_trans a2 c1⟩
  · obtain ⟨a1, a2⟩ := b h2
    exact ⟨Rat.le_trans c0 a1, Rat.le_trans a2 i1⟩
theorem lv_sz {k : Nat} {r : Rat} {v st ti t : Int} (hz : SzR k r) (h0 : 0 ≤ v) (h1 : v ≤ 65535) (i0 : 0 ≤ ti) (i1 : ti ≤ 10000000) : SzR (k + (5 + k + 1 + 8) + 1) (lvR r v st ti t) := by
  have hv : SzR 5 (v : Rat) := SzR.int (by omega) (by decide)
  unfold lvR
  refine hz.mix hv ?_
  unfold wayR
  by_cases h1 : st + ti ≤ t
  · rw [if_pos h1]; exact SzR.int (z := 1) (by decide) (by decide)
  · rw [if_neg h1]
    by_cases h2 : t ≤ st
    · rw [if_pos h2]; exact SzR.int (z := 0) (by decide) (by decide)
    · rw [if_neg h2]; exact SzR.red (by omega) (by omega) (by omega)
theorem errLv_of {k : Nat} {r : Rat} (hz : SzR k r) (hk : k ≤ 4096) (hi : InL r) : errLv (sR r).data.toList = 0 := by
  unfold errLv
  rw [sR_list, chkR_fit (hz.fit hk), if_neg (by decide), valR_rT, if_pos hi]

theorem getD_left {α : Type} {l : List α} {k d : α} {i : Nat} (h : i < l.length) : (l ++ [k]).getD i d = l.getD i d := by
  simp [List.getD, List.getElem?_append_left h]
theorem getD_mid {α : Type} {l : List α} {k d : α} : (l ++ [k]).getD l.length d = k := by simp [List.getD]
theorem getD_at {α : Type} {l : List α} {d : α} {i : Nat} (h : i < l.length) : l.getD i d = l[i] := by simp [List.getD, h]
theorem last_at {α : Type} {l : List α} {q d : α} (h : l.getLast? = some q) : 0 < l.length ∧ l.getD (l.length - 1) d = q := by
  have h0 : l ≠ [] := by rintro rfl; simp at h
  refine ⟨List.length_pos_iff.2 h0, ?_⟩
  rw [List.getLast?_eq_getElem?] at h
  simp [List.getD, h]

def UpK (l : List Kn) : Prop := ∀ k (h : k + 1 < l.length), (l[k]'(by omega)).at_ ≤ l[k + 1].at_
theorem UpK.le {l : List Kn} (h : UpK l) {q : Kn} (hq : l.getLast? = some q) {j : Nat} (hj : j < l.length) : l[j].at_ ≤ q.at_ := by
  obtain ⟨h0, h1⟩ := last_at (d := noK) hq
  have := at_up h (i := j) (j := l.length - 1) (by omega) (by omega)
  rw [getD_at (by omega)] at h1
  rwa [h1] at this
theorem rd_last {l : List Kn} (h : UpK l) {q : Kn} (hq : l.getLast? = some q) {t : Int} (ht : q.at_ ≤ t) : rdT l t = q.s := by
  obtain ⟨h0, h1⟩ := last_at (d := noK) hq
  have e : ixT (·.at_) l t = l.length := ixT_is (Nat.le_refl _) (fun j hj _ => Int.le_trans (h.le hq hj) ht) (fun h => absurd h (by omega))
  unfold rdT
  simp only [e]
  rw [if_neg (by omega), if_pos trivial, h1]
theorem rd_left {l : List Kn} (_h : UpK l) {q k : Kn} (hq : l.getLast? = some q) (_hk : q.at_ ≤ k.at_) {t : Int} (ht : t < q.at_) : rdT (l ++ [k]) t = rdT l t := by
  obtain ⟨h0, h1⟩ := last_at (d := noK) hq
  have hi : ixT (·.at_) l t < l.length := by
    rcases Nat.lt_or_ge (ixT (·.at_) l t) l.length with h2 | h2
    · exact h2
    · have := ixT_lt (f := (·.at_)) (l := l) (t := t) (j := l.length - 1) (by omega) (by omega)
      rw [getD_at (by omega)] at h1
      rw [h1] at this
      omega
  have e : ixT (·.at_) (l ++ [k]) t = ixT (·.at_) l t := ixT_is (by simp; omega) (fun j hj h2 => by
    rw [List.getElem_append_left (by omega)]
    exact ixT_lt (f := fun k : Kn => k.at_) _ h2) (fun h2 => by
    rw [List.getElem_append_left hi]
    exact ixT_at (f := fun k : Kn => k.at_) hi)
  unfold rdT
  simp only [e]
  by_cases hz : ixT (·.at_) l t = 0
  · rw [if_pos hz, if_pos hz, getD_left h0]
  · rw [if_neg hz, if_neg hz, if_neg (by simp; omega), if_neg (by omega), getD_left hi, getD_left (by omega)]
theorem rd_mid {l : List Kn} (h : UpK l) {q k : Kn} (hq : l.getLast? = some q) {t : Int} (ht : q.at_ ≤ t) (ht2 : t < k.at_) : rdT (l ++ [k]) t = sR (mixR (valR q.s.data.toList) (valR k.s.data.toList) (Rat.divInt (t - q.at_) (k.at_ - q.at_))) := by
  obtain ⟨h0, h1⟩ := last_at (d := noK) hq
  have e : ixT (·.at_) (l ++ [k]) t = l.length := ixT_is (by simp) (fun j hj h2 => by
    rw [List.getElem_append_left h2]
    exact Int.le_trans (h.le hq h2) ht) (fun h2 => by
    rw [List.getElem_append_right (by omega)]
    simpa using ht2)
  unfold rdT
  simp only [e]
  rw [if_neg (by omega), if_neg (by simp), getD_left (by omega), h1, getD_mid]

structure Kst (out : List Kn) (q : Kn) (F : Int → ByteArray) : Prop where
  up : UpK out
  last : out.getLast? = some q
  ok : ∀ k ∈ out, k.ok
  apart : ∀ k (h : k + 1 < out.length), out[k + 1] ≠ out[k]'(by omega)
  rd : ∀ t, t < q.at_ → rdT out t = F t
theorem Kst.one {k : Kn} {F : Int → ByteArray} (h : k.ok) (hF : ∀ t, t < k.at_ → k.s = F t) : Kst (putK [] k) k F := by
  have e : putK [] k = [k] := by simp [putK]
  rw [e]
  refine ⟨fun i hi => by simp at hi, rfl, by simpa using h, fun i hi => by simp at hi, fun t ht => ?_⟩
  have e : ixT (·.at_) [k] t = 0 := ixT_zero (fun _ => by simpa using ht)
  unfold rdT
  simp only [e, if_pos]
  exact hF t ht
theorem Kst.put {out : List Kn} {q k : Kn} {F : Int → ByteArray} (h : Kst out q F) (hk : k.ok) (ha : q.at_ ≤ k.at_)
    (hF : ∀ t, q.at_ ≤ t → t < k.at_ → sR (mixR (valR q.s.data.toList) (valR k.s.data.toList) (Rat.divInt (t - q.at_) (k.at_ - q.at_))) = F t) : Kst (putK out k) k F := by
  unfold putK
  by_cases hq : out.getLast? = some k
  · rw [if_pos hq]
    obtain rfl : q = k := Option.some.inj (h.last.symm.trans hq)
    exact h
  · rw [if_neg hq]
    obtain ⟨h0, h1⟩ := last_at (d := noK) h.last
    rw [getD_at (by omega)] at h1
    have hl : (out ++ [k]).length = out.length + 1 := by simp
    refine ⟨fun i hi => ?_, by simp, fun x hx => ?_, fun i hi => ?_, fun t ht => ?_⟩
    · rw [List.getElem_append_left (by omega)]
      by_cases hi2 : i + 1 < out.length
      · rw [List.getElem_append_left hi2]; exact h.up i hi2
      · rw [List.getElem_append_right (by omega)]
        simp
        obtain rfl : i = out.length - 1 := by omega
        rw [h1]; exact ha
    · rcases List.mem_append.1 hx with hx | hx
      · exact h.ok x hx
      · simp at hx; rw [hx]; exact hk
    · by_cases hi2 : i + 1 < out.length
      · rw [List.getElem_append_left hi2, List.getElem_append_left (by omega)]; exact h.apart i hi2
      · rw [List.getElem_append_right (by omega), List.getElem_append_left (by omega)]
        simp
        obtain rfl : i = out.length - 1 := by omega
        rw [h1]
        rintro rfl
        exact hq h.last
    · by_cases ht2 : t < q.at_
      · rw [rd_left h.up h.last ha ht2]; exact h.rd t ht2
      · rw [rd_mid h.up h.last (by omega) ht]; exact hF t (by omega) ht

theorem Gl.right {g : Gl} (h : g.err = 0) (hs : g.s.size ≤ 1000) : ∃ r, g.s = sR r ∧ SzR 1000 r ∧ InL r ∧ 0 ≤ g.v ∧ g.v ≤ 65535 ∧ 0 ≤ g.st ∧ g.st ≤ 10000000 ∧ 0 ≤ g.ti ∧ g.ti ≤ 10000000 ∧ ∀ t, g.of t = sR (lvR r g.v g.st g.ti t) := by
  obtain ⟨r, hr, hz, hv, hi, h1, h2, h3, h4, h5, h6⟩ := errG_zero hs h
  exact ⟨r, hr, hz, hi, h1, h2, h3, h4, h5, h6, fun t => by unfold Gl.of; rw [hr, ofT_lv]⟩
theorem now_at {l : List Gl} {p : Option Gl} (h : chF p l = 0) {i : Nat} (hi : i < l.length) {t : Int} (h1 : l[i].st ≤ t) (h2 : ∀ h : i + 1 < l.length, t < l[i + 1].st) : nowT l t = l[i] := by
  have e : ixT (·.st) l t = i + 1 := ixT_is (by omega) (fun j hj h3 => Int.le_trans (st_up h (i := j) (j := i) (by omega) hi) h1) h2
  unfold nowT
  rw [e, Nat.add_sub_cancel, getD_at hi]
theorem now_first {l : List Gl} (h0 : 0 < l.length) {t : Int} (h : t < l[0].st) : nowT l t = l[0] := by
  have e : ixT (·.st) l t = 0 := ixT_zero (fun _ => h)
  unfold nowT
  rw [e, getD_at h0]
theorem kn_ok {k : Nat} {r : Rat} {a : Int} (hz : SzR k r) (hk : k ≤ 4096) (hi : InL r) (h0 : 0 ≤ a) (h1 : a ≤ 20000000) : Kn.ok ⟨a, sR r⟩ := by
  refine ⟨?_, errLv_of hz hk hi⟩
  simp [inT]; omega
theorem int_in {v : Int} (h0 : 0 ≤ v) (h1 : v ≤ 65535) : InL (v : Rat) := ⟨(cast_le (a := 0)).2 h0, (cast_le (b := 65535)).2 h1⟩

theorem mix_part {r v : Rat} {p q m : Int} (hm : 0 < m) (hq : 0 < q) : mixR r (mixR r v (Rat.divInt q m)) (Rat.divInt p q) = mixR r v (Rat.divInt p m) := by
  have e1 := div_back (p := q) hm
  have e2 := div_back (p := p) hq
  have e3 := div_back (p := p) hm
  have hq' := cast_pos hq
  have hm' := cast_pos hm
  unfold mixR
  have : Rat.divInt q m * Rat.divInt p q = Rat.divInt p m := by
    have h : (Rat.divInt q m * Rat.divInt p q) * (m : Rat) = Rat.divInt p m * (m : Rat) := by
      rw [e3, ← e2, Rat.mul_comm (Rat.divInt q m), Rat.mul_assoc, e1]
    exact mul_cancel (by grind) h
  grind
theorem kst_end {l : List Gl} (h : chF none l = 0) (hs : ∀ g ∈ l, g.s.size ≤ 1000) {i : Nat} (hi : i < l.length) (hn : ∀ h : i + 1 < l.length, l[i].st + l[i].ti ≤ l[i + 1].st)
    {out : List Kn} (hk : Kst out ⟨l[i].st, l[i].s⟩ fun t => (nowT l t).of t) : Kst (putK out ⟨l[i].st + l[i].ti, sR (l[i].v : Rat)⟩) ⟨l[i].st + l[i].ti, sR (l[i].v : Rat)⟩ fun t => (nowT l t).of t := by
  obtain ⟨h1, h2, h3⟩ := chF_up h
  obtain ⟨r, hr, hz, hin, v0, v1, s0, s1, i0, i1, hof⟩ := Gl.right (h1 _ (List.getElem_mem hi)) (hs _ (List.getElem_mem hi))
  refine hk.put (kn_ok (SzR.int (k := 5) (by omega) (by decide)) (by decide) (int_in v0 v1) (by omega) (by omega)) (by simp only; omega) fun t ht1 ht2 => ?_
  simp only at ht1 ht2 ⊢
  rw [now_at h hi ht1 (fun h4 => by have := hn h4; omega), hof, hr, val_sR, val_sR]
  unfold lvR wayR
  rw [if_neg (by omega), show l[i].st + l[i].ti - l[i].st = l[i].ti by omega]
  by_cases h4 : t ≤ l[i].st
  · rw [if_pos h4, show t - l[i].st = 0 by omega, Rat.zero_divInt]
  · rw [if_neg h4]
theorem kst_all {l : List Gl} (h : chF none l = 0) (hs : ∀ g ∈ l, g.s.size ≤ 1000) : ∀ (i : Nat) (hi : i < l.length), Kst (putK (knK l i) ⟨l[i].st, l[i].s⟩) ⟨l[i].st, l[i].s⟩ fun t => (nowT l t).of t
  | 0, hi => by
    obtain ⟨h1, -, -⟩ := chF_up h
    obtain ⟨r, hr, hz, hin, v0, v1, s0, s1, i0, i1, hof⟩ := Gl.right (h1 _ (List.getElem_mem hi)) (hs _ (List.getElem_mem hi))
    refine Kst.one (by rw [hr]; exact kn_ok hz (by decide) hin s0 (by omega)) fun t ht => ?_
    simp only at ht ⊢
    rw [now_first hi ht]
    unfold Gl.of ofT
    rw [if_neg (by omega), if_pos (by omega)]
  | i + 1, hi => by
    have ih := kst_all h hs i (by omega)
    obtain ⟨h1, h2, -⟩ := chF_up h
    obtain ⟨r, hr, hz, hin, v0, v1, s0, s1, i0, i1, hof⟩ := Gl.right (h1 _ (List.getElem_mem (show i < l.length by omega))) (hs _ (List.getElem_mem (show i < l.length by omega)))
    obtain ⟨r2, hr2, hz2, hin2, v02, v12, s02, s12, i02, i12, hof2⟩ := Gl.right (h1 _ (List.getElem_mem hi)) (hs _ (List.getElem_mem hi))
    obtain ⟨hst, hfr⟩ := h2 i hi
    have hok : Kn.ok ⟨l[i + 1].st, l[i + 1].s⟩ := by rw [hr2]; exact kn_ok hz2 (by decide) hin2 s02 (by omega)
    have he : endsK l i = decide (l[i].st + l[i].ti ≤ l[i + 1].st) := by
      unfold endsK
      rw [List.getElem?_eq_getElem (show i < l.length by omega), List.getElem?_eq_getElem hi]
    rw [knK_succ (show i < l.length by omega), he]
    unfold stepK
    by_cases hend : l[i].st + l[i].ti ≤ l[i + 1].st
    · rw [if_pos (by simpa using hend)]
      refine (kst_end h hs (by omega) (fun _ => hend) ih).put hok (by simpa using hend) fun t ht1 ht2 => ?_
      simp only at ht1 ht2 ⊢
      rw [now_at h (show i < l.length by omega) (by omega) (fun _ => ht2), hof, val_sR]
      have e1 : l[i + 1].s = sR (l[i].v : Rat) := by
        rw [hfr, hof]
        unfold lvR wayR
        rw [if_pos hend, mix_1]
      rw [e1, val_sR, mix_same]
      unfold lvR wayR
      rw [if_pos ht1, mix_1]
    · rw [if_neg (by simpa using hend)]
      refine ih.put hok (by simpa using hst) fun t ht1 ht2 => ?_
      simp only at ht1 ht2 ⊢
      rw [now_at h (show i < l.length by omega) ht1 (fun _ => ht2), hof, hr, val_sR, hfr, hof, val_sR]
      unfold lvR wayR
      rw [if_neg (by omega), if_neg (by omega), if_neg (by omega), mix_part (by omega) (by omega)]
      by_cases h4 : t ≤ l[i].st
      · rw [if_pos h4, show t - l[i].st = 0 by omega, Rat.zero_divInt]
      · rw [if_neg h4]
theorem knF_of : ∀ {l : List Kn} {p : Option Kn}, (∀ k ∈ l, k.ok) → UpK l → (∀ q, p = some q → ∀ h : 0 < l.length, q.at_ ≤ l[0].at_) → knF p l = 0
  | [], p, _, _, _ => knF_nil p
  | k :: r, p, h1, h2, h3 => by
    have hk := h1 k (by simp)
    have hr : knF (some k) r = 0 := knF_of (fun x hx => h1 x (by simp [hx])) (fun i hi => h2 (i + 1) (by simpa using hi)) (fun q e h0 => by
      injection e with e
      subst e
      exact h2 0 (by simpa using h0))
    rw [knF_cons, if_neg (by simp [hk.1]), if_neg (by simpa using hk.2)]
    cases p with
    | none => exact hr
    | some q =>
      have : q.at_ ≤ k.at_ := h3 q rfl (by simp)
      simp only
      rw [if_neg (by omega)]; exact hr
theorem put_len (out : List Kn) (k : Kn) : (putK out k).length ≤ out.length + 1 := by
  unfold putK
  split <;> simp
theorem knK_len (l : List Gl) : ∀ k, (knK l k).length ≤ 2 * k
  | 0 => by simp [knK]
  | k + 1 => by
    have := knK_len l k
    rw [knK]
    split
    · unfold stepK
      split
      · rename_i g _ _
        have a := put_len (putK (knK l k) ⟨g.st, g.s⟩) ⟨g.st + g.ti, sR (g.v : Rat)⟩
        have b := put_len (knK l k) ⟨g.st, g.s⟩
        omega
      · rename_i g _ _
        have b := put_len (knK l k) ⟨g.st, g.s⟩
        omega
    · omega

theorem knots_read {l : List Gl} (h : chF none l = 0) (hl : l.length ≤ 256) (h0 : 0 < l.length) (hs : ∀ g ∈ l, g.s.size ≤ 1000) :
    bendT (knK l l.length) = 0 ∧ (∀ t, rdT (knK l l.length) t = (nowT l t).of t) ∧ ∀ k (hk : k + 1 < (knK l l.length).length), (knK l l.length)[k]'(by omega) ≠ (knK l l.length)[k + 1] ∧ ((knK l l.length)[k]'(by omega)).at_ ≤ (knK l l.length)[k + 1].at_ := by
  obtain ⟨n, hn⟩ : ∃ n, l.length = n + 1 := ⟨l.length - 1, by omega⟩
  have hi : n < l.length := by omega
  have he : endsK l n = true := by
    unfold endsK
    rw [List.getElem?_eq_none (i := n + 1) (by omega)]
    split
    · rename_i h1 h2; cases h2
    · rfl
  have hk := kst_end h hs hi (fun h => absurd h (by omega)) (kst_all h hs n hi)
  have e : knK l l.length = putK (putK (knK l n) ⟨l[n].st, l[n].s⟩) ⟨l[n].st + l[n].ti, sR (l[n].v : Rat)⟩ := by
    rw [hn, knK_succ hi, he]; rfl
  rw [← e] at hk
  obtain ⟨k1, k2, k3, k4, k5⟩ := hk
  obtain ⟨h1, -, -⟩ := chF_up h
  obtain ⟨r, hr, hz, hin, v0, v1, s0, s1, i0, i1, hof⟩ := Gl.right (h1 _ (List.getElem_mem hi)) (hs _ (List.getElem_mem hi))
  have hlen := knK_len l l.length
  refine ⟨?_, fun t => ?_, fun k hk => ⟨fun h => k4 k hk h.symm, k1 k hk⟩⟩
  · unfold bendT
    obtain ⟨a, -⟩ := last_at (d := noK) k2
    rw [if_neg (by omega), if_neg (by omega)]
    exact knF_of k3 k1 (fun q e => by cases e)
  · by_cases ht : t < l[n].st + l[n].ti
    · exact k5 t ht
    · rw [rd_last k1 k2 (by simpa using ht), now_at h hi (by omega) (fun h => absurd h (by omega)), hof]
      unfold lvR wayR
      rw [if_pos (by omega), mix_1]
end Go.Proofs.YtjnhdimllllgaaaGreatDoor

namespace Go.Proofs.YtjnhdimllllgaaaGreatDoor
open Go.RowKit

set_option maxHeartbeats 4000000 in
theorem r3level_any (s : ByteArray) (w : World) (hs : s.size ≤ 1000) :
    Calls Tryz.prog 31 #[.string s] w fun e w' => e = .returned (.int .i64 (errLv s.data.toList)) ∧ Below w.heap.size w w' := by
  have hB := Below.refl w.heap.size w
  have hC := fun w => scheck_any s w (by omega)
  rcases lev_cases s hs with ⟨hc, he⟩ | ⟨r, hr, hz, hv, hc, ho⟩
  · rw [he]
    generalize chkR s.data.toList = k at *
    have g1 : (k == 0) = false := by simpa using hc
    have g2 : (k != 0) = true := by simpa using hc
    have HC := Lib.hid hC
    clear hC hc he
    go_enter Tryz.func31, Tryz.ntmps31
    go_wp2_with (go_at_call 67; with_reducible refine (HC.out _).mono ?_; rintro e wk ⟨rfl, hb⟩; replace hB := hB.trans (hb.mono hB.size); clear hb)
    go_ret
    exact ⟨rfl, hB⟩
  · rw [hc] at hC
    have HC := Lib.hid hC
    subst hr
    have HO1 := Lib.hid (fun w => sorder_fit hz sz_zero w (by omega) (by omega))
    rw [← sR_zero] at HO1
    have HW := Lib.hid (fun w => swhole_fit (x := 65535) (by omega) (by omega) w)
    have HO2 := Lib.hid (fun w => sorder_fit hz sz_max w (by omega) (by omega))
    have hin := inL_ord (r := r)
    generalize ordR r ((65535 : Int) : Rat) = o2 at *
    generalize ordR r 0 = o1 at *
    generalize sR ((65535 : Int) : Rat) = S2 at *
    rcases ho with ⟨hi, he⟩ | ⟨hi, he⟩
    · rw [he]
      by_cases h1 : o1 < 0
      · clear hC hz hv hc hin hi he
        go_enter Tryz.func31, Tryz.ntmps31
        go_wp2_with (first | (go_at_call 67; with_reducible refine (HC.out _).mono ?_; rintro e wk ⟨rfl, hb⟩; replace hB := hB.trans (hb.mono hB.size); clear hb) | (go_at_call 33; with_reducible refine (HO1.out _).mono ?_; rintro e wk ⟨rfl, hb⟩; replace hB := hB.trans (hb.mono hB.size); clear hb) | (go_at_call 32; with_reducible refine (HW.out _).mono ?_; rintro e wk ⟨rfl, hb⟩; replace hB := hB.trans (hb.mono hB.size); clear hb) | (go_at_call 33; with_reducible refine (HO2.out _).mono ?_; rintro e wk ⟨rfl, hb⟩; replace hB := hB.trans (hb.mono hB.size); clear hb))
        go_ret
        exact ⟨rfl, hB⟩
      · have h2 : 0 < o2 := by
          by_cases h : 0 < o2
          · exact h
          · exact absurd (hin.2 ⟨h1, h⟩) hi
        clear hC hz hv hc hin hi he
        go_enter Tryz.func31, Tryz.ntmps31
        go_wp2_with (first | (go_at_call 67; with_reducible refine (HC.out _).mono ?_; rintro e wk ⟨rfl, hb⟩; replace hB := hB.trans (hb.mono hB.size); clear hb) | (go_at_call 33; with_reducible refine (HO1.out _).mono ?_; rintro e wk ⟨rfl, hb⟩; replace hB := hB.trans (hb.mono hB.size); clear hb) | (go_at_call 32; with_reducible refine (HW.out _).mono ?_; rintro e wk ⟨rfl, hb⟩; replace hB := hB.trans (hb.mono hB.size); clear hb) | (go_at_call 33; with_reducible refine (HO2.out _).mono ?_; rintro e wk ⟨rfl, hb⟩; replace hB := hB.trans (hb.mono hB.size); clear hb))
        go_ret
        exact ⟨rfl, hB⟩
    · rw [he]
      obtain ⟨h1, h2⟩ := hin.1 hi
      clear hC hz hv hc hin hi he
      go_enter Tryz.func31, Tryz.ntmps31
      go_wp2_with (first | (go_at_call 67; with_reducible refine (HC.out _).mono ?_; rintro e wk ⟨rfl, hb⟩; replace hB := hB.trans (hb.mono hB.size); clear hb) | (go_at_call 33; with_reducible refine (HO1.out _).mono ?_; rintro e wk ⟨rfl, hb⟩; replace hB := hB.trans (hb.mono hB.size); clear hb) | (go_at_call 32; with_reducible refine (HW.out _).mono ?_; rintro e wk ⟨rfl, hb⟩; replace hB := hB.trans (hb.mono hB.size); clear hb) | (go_at_call 33; with_reducible refine (HO2.out _).mono ?_; rintro e wk ⟨rfl, hb⟩; replace hB := hB.trans (hb.mono hB.size); clear hb))
      go_ret
      exact ⟨rfl, hB⟩
set_option maxHeartbeats 1000000 in
theorem r3time_any (t : Int) (w : World) : Calls Tryz.prog 26 #[.int .i64 t] w fun e w' => e = .returned (.bool (inT 10000000 t)) ∧ w = w' := by
  have hd : inT 10000000 t = (decide (0 ≤ t) && decide (t ≤ 10000000)) := rfl
  by_cases g1 : 0 ≤ t
  · by_cases g2 : t ≤ 10000000
    · have e : inT 10000000 t = true := by rw [hd]; simp [g1, g2]
      rw [e]
      clear e hd
      go_enter Tryz.func26, Tryz.ntmps26
      go_wp2
      go_ret
      exact ⟨by first | rfl | simp [g1, g2], rfl⟩
    · have e : inT 10000000 t = false := by rw [hd]; simp; omega
      rw [e]
      clear e hd
      go_enter Tryz.func26, Tryz.ntmps26
      go_wp2
      go_ret
      exact ⟨by first | rfl | (simp; omega), rfl⟩
  · have e : inT 10000000 t = false := by rw [hd]; simp; omega
    rw [e]
    clear e hd
    go_enter Tryz.func26, Tryz.ntmps26
    go_wp2
    go_ret
    exact ⟨by first | rfl | (simp; omega), rfl⟩
set_option maxHeartbeats 1000000 in
theorem r3whole_any (t : Int) (w : World) : Calls Tryz.prog 27 #[.int .i64 t] w fun e w' => e = .returned (.bool (inT 65535 t)) ∧ w = w' := by
  have hd : inT 65535 t = (decide (0 ≤ t) && decide (t ≤ 65535)) := rfl
  by_cases g1 : 0 ≤ t
  · by_cases g2 : t ≤ 65535
    · have e : inT 65535 t = true := by rw [hd]; simp [g1, g2]
      rw [e]
      clear e hd
      go_enter Tryz.func27, Tryz.ntmps27
      go_wp2
      go_ret
      exact ⟨by first | rfl | simp [g1, g2], rfl⟩
    · have e : inT 65535 t = false := by rw [hd]; simp; omega
      rw [e]
      clear e hd
      go_enter Tryz.func27, Tryz.ntmps27
      go_wp2
      go_ret
      exact ⟨by first | rfl | (simp; omega), rfl⟩
  · have e : inT 65535 t = false := by rw [hd]; simp; omega
    rw [e]
    clear e hd
    go_enter Tryz.func27, Tryz.ntmps27
    go_wp2
    go_ret
    exact ⟨by first | rfl | (simp; omega), rfl⟩
end Go.Proofs.YtjnhdimllllgaaaGreatDoor

namespace Go.Proofs.YtjnhdimllllgaaaGreatDoor
open Go.RowKit

theorem r3timeB (t : Int) (w : World) : Calls Tryz.prog 26 #[.int .i64 t] w fun e w' => e = .returned (.bool (inT 10000000 t)) ∧ Below w.heap.size w w' :=
  (r3time_any t w).mono fun _ _ ⟨h1, h2⟩ => ⟨h1, h2 ▸ Below.refl _ _⟩
theorem r3wholeB (t : Int) (w : World) : Calls Tryz.prog 27 #[.int .i64 t] w fun e w' => e = .returned (.bool (inT 65535 t)) ∧ Below w.heap.size w w' :=
  (r3whole_any t w).mono fun _ _ ⟨h1, h2⟩ => ⟨h1, h2 ▸ Below.refl _ _⟩
set_option maxRecDepth 100000 in
set_option maxHeartbeats 4000000 in
theorem r3check_any (s : ByteArray) (v st ti : Int) (w : World) (hs : s.size ≤ 1000) :
    Calls Tryz.prog 25 #[.agg #[.string s, .int .i64 v, .int .i64 st, .int .i64 ti]] w fun e w' => e = .returned (.int .i64 (errG s.data.toList v st ti)) ∧ Below w.heap.size w w' := by
  have HL := Lib.hid (fun w => r3level_any s w hs)
  have HW1 := Lib.hid (fun w => r3wholeB v w)
  have HW2 := Lib.hid (fun w => r3timeB st w)
  have HW3 := Lib.hid (fun w => r3timeB ti w)
  have HV := Lib.hid (show errG s.data.toList v st ti = if errLv s.data.toList ≠ 0 then errLv s.data.toList else if (inT 65535 v && (inT 10000000 st && inT 10000000 ti)) = true then 0 else 2 from rfl)
  generalize errG s.data.toList v st ti = k at *
  generalize errLv s.data.toList = k1 at *
  generalize inT 65535 v = b1 at *
  generalize inT 10000000 st = b2 at *
  generalize inT 10000000 ti = b3 at *
  obtain ⟨W, hW⟩ : ∃ W, W = w.alloc (.cells #[.string s, .int .i64 v, .int .i64 st, .int .i64 ti] 24) := ⟨_, rfl⟩
  have hG := GBx.fresh w s v st ti
  have hB0 : Below w.heap.size w W := by rw [hW]; exact (Below.refl _ w).alloc (Nat.le_refl _) _
  rw [← hW] at hG
  have HP := Lib.hid hG.lt
  have HG := Lib.hid hG
  have HW := Lib.hid hW
  have HB0 := Lib.hid hB0
  obtain ⟨-, c0, c1, c2, c3⟩ := hG
  clear hs hW hB0
  have hB := Below.refl W.heap.size W
  by_cases h1 : k1 = 0
  · subst h1
    cases b1 <;> cases b2 <;> cases b3
    all_goals
      have hv := HV.out
      simp at hv
      subst hv
      clear HV
      go_enter Tryz.func25, Tryz.ntmps25
      go_wp2_with fail
      rw [← HW.out]
      go_wp2_with (first | (go_at_call 31; with_reducible refine (HL.out _).mono ?_; rintro e wk ⟨rfl, hb⟩; replace hB := hB.trans (hb.mono hB.size); clear hb; obtain ⟨-, c0, c1, c2, c3⟩ := HG.out.below HP.out hB) | (go_at_call 27; with_reducible refine (HW1.out _).mono ?_; rintro e wk ⟨rfl, hb⟩; replace hB := hB.trans (hb.mono hB.size); clear hb; obtain ⟨-, c0, c1, c2, c3⟩ := HG.out.below HP.out hB) | (go_at_call 26; with_reducible refine (HW2.out _).mono ?_; rintro e wk ⟨rfl, hb⟩; replace hB := hB.trans (hb.mono hB.size); clear hb; obtain ⟨-, c0, c1, c2, c3⟩ := HG.out.below HP.out hB) | (go_at_call 26; with_reducible refine (HW3.out _).mono ?_; rintro e wk ⟨rfl, hb⟩; replace hB := hB.trans (hb.mono hB.size); clear hb; obtain ⟨-, c0, c1, c2, c3⟩ := HG.out.below HP.out hB))
      go_ret
      exact ⟨rfl, HB0.out.trans (hB.mono HB0.out.size)⟩
  · have hv := HV.out
    rw [if_pos h1] at hv
    have g1 : (k1 == 0) = false := by simpa using h1
    have g2 : (k1 != 0) = true := by simpa using h1
    clear HV h1
    subst hv
    go_enter Tryz.func25, Tryz.ntmps25
    go_wp2_with fail
    rw [← HW.out]
    go_wp2_with (first | (go_at_call 31; with_reducible refine (HL.out _).mono ?_; rintro e wk ⟨rfl, hb⟩; replace hB := hB.trans (hb.mono hB.size); clear hb; obtain ⟨-, c0, c1, c2, c3⟩ := HG.out.below HP.out hB))
    go_ret
    exact ⟨rfl, HB0.out.trans (hB.mono HB0.out.size)⟩
set_option maxRecDepth 100000 in
set_option maxHeartbeats 4000000 in
theorem r3of_any (s : ByteArray) (v st ti t : Int) (w : World) (hs : s.size ≤ 1000) (t0 : -9223372036854775808 ≤ t) (t1 : t ≤ 9223372036854775807) (h1 : errG s.data.toList v st ti = 0) :
    Calls Tryz.prog 60 #[.agg #[.string s, .int .i64 v, .int .i64 st, .int .i64 ti], .int .i64 t] w fun e w' => e = .returned (.string (ofT s v st ti t)) ∧ Below w.heap.size w w' := by
  obtain ⟨W, hW⟩ : ∃ W, W = w.alloc (.cells #[.string s, .int .i64 v, .int .i64 st, .int .i64 ti] 24) := ⟨_, rfl⟩
  have hG := GBx.fresh w s v st ti
  have hB0 : Below w.heap.size w W := by rw [hW]; exact (Below.refl _ w).alloc (Nat.le_refl _) _
  rw [← hW] at hG
  have HP := Lib.hid hG.lt
  have HG := Lib.hid hG
  have HW := Lib.hid hW
  have HB0 := Lib.hid hB0
  have hB := Below.refl W.heap.size W
  obtain ⟨-, c0, c1, c2, c3⟩ := hG
  clear hW hB0
  obtain ⟨r, hr, hz, hv, hi, v0, v1, s0, s1, i0, i1⟩ := errG_zero hs h1
  by_cases g2 : st + ti ≤ t
  · have hV2 : ofT s v st ti t = sR (v : Rat) := by unfold ofT; rw [if_pos g2]
    rw [hV2]
    have HWh := Lib.hid (fun w => swhole_fit (x := v) (by omega) (by omega) w)
    generalize sR (v : Rat) = R at *
    clear hr hz hv hi hV2 h1
    go_enter Tryz.func60, Tryz.ntmps60
    go_wp2_with fail
    rw [← HW.out]
    go_wp2_with (first | (go_at_call 32; with_reducible refine (HWh.out _).mono ?_; rintro e wk ⟨rfl, hb⟩; replace hB := hB.trans (hb.mono hB.size); clear hb; obtain ⟨-, c0, c1, c2, c3⟩ := HG.out.below HP.out hB))
    go_ret
    exact ⟨rfl, HB0.out.trans (hB.mono HB0.out.size)⟩
  · by_cases g1 : t ≤ st
    · have hV2 : ofT s v st ti t = s := by unfold ofT; rw [if_neg g2, if_pos g1]
      rw [hV2]
      clear hr hz hv hi hV2 h1
      go_enter Tryz.func60, Tryz.ntmps60
      go_wp2_with fail
      rw [← HW.out]
      go_wp2_with fail
      go_ret
      exact ⟨rfl, HB0.out.trans (hB.mono HB0.out.size)⟩
    · have hV2 : ofT s v st ti t = sR (mixR r (v : Rat) (Rat.divInt (t - st) ti)) := by
        unfold ofT
        rw [if_neg g2, if_neg g1, hv]
      rw [hV2]
      have hn : SzR 8 (Rat.divInt (t - st) ti) := SzR.red (by omega) (by omega) (by omega)
      have HWh := Lib.hid (fun w => swhole_fit (x := v) (by omega) (by omega) w)
      have HO := Lib.hid (fun w => sover_fit (x := t - st) (y := ti) (by omega) (by omega) (by omega) (by omega) (by omega) w)
      have HM := Lib.hid (fun w => smixed_fit hz (SzR.int (k := 5) (z := v) (by omega) (by omega)) hn w (by omega))
      rw [← hr] at HM
      generalize sR (mixR r (v : Rat) (Rat.divInt (t - st) ti)) = R at *
      generalize sR (Rat.divInt (t - st) ti) = O at *
      generalize sR (v : Rat) = V at *
      have e1 : IntKind.i64.wrap (t - st) = t - st := IntWalk.i64_in _ (by omega)
      clear hr hz hv hi hV2 h1 hn
      go_enter Tryz.func60, Tryz.ntmps60
      go_wp2_with fail
      rw [← HW.out]
      go_wp2_with fail
      replace hB := below_drewN hB 1
      obtain ⟨-, c0, c1, c2, c3⟩ := HG.out.below HP.out hB
      go_region_held3 (fun w' => w'.cell? ⟨w.heap.size, 0, none⟩ = some (.string s) ∧ w'.cell? ⟨w.heap.size, 1, none⟩ = some (.int .i64 v) ∧ w'.cell? ⟨w.heap.size, 2, none⟩ = some (.int .i64 st) ∧ w'.cell? ⟨w.heap.size, 3, none⟩ = some (.int .i64 ti)) (exact ⟨c0, c1, c2, c3⟩) (first | (go_at_call 76; refine (HM.out _).mono ?_; rintro e wk ⟨rfl, hb⟩; replace hB := hB.trans (hb.mono hB.size); clear hb; obtain ⟨-, c0, c1, c2, c3⟩ := HG.out.below HP.out hB) | (go_at_call 32; refine (HWh.out _).mono ?_; rintro e wk ⟨rfl, hb⟩; replace hB := hB.trans (hb.mono hB.size); clear hb; obtain ⟨-, c0, c1, c2, c3⟩ := HG.out.below HP.out hB) | (go_at_call 51; refine (HO.out _).mono ?_; rintro e wk ⟨rfl, hb⟩; replace hB := hB.trans (hb.mono hB.size); clear hb; obtain ⟨-, c0, c1, c2, c3⟩ := HG.out.below HP.out hB))
      go_wp2
      go_ret
      exact ⟨rfl, HB0.out.trans (hB.mono HB0.out.size)⟩
set_option maxRecDepth 100000 in
set_option maxHeartbeats 4000000 in
theorem r3at_any (s : ByteArray) (v st ti t : Int) (w : World) (hs : s.size ≤ 1000) (t0 : -9223372036854775808 ≤ t) (t1 : t ≤ 9223372036854775807) :
    Calls Tryz.prog 34 #[.agg #[.string s, .int .i64 v, .int .i64 st, .int .i64 ti], .int .i64 t] w fun e w' => e = .returned (.tuple #[.string (atT s v st ti t), .int .i64 (errG s.data.toList v st ti)]) ∧ Below w.heap.size w w' := by
  have HC := Lib.hid (fun w => r3check_any s v st ti w hs)
  have hO := fun h w => r3of_any s v st ti t w hs t0 t1 h
  have hV : atT s v st ti t = if errG s.data.toList v st ti ≠ 0 then ⟨#[]⟩ else ofT s v st ti t := rfl
  obtain ⟨W, hW⟩ : ∃ W, W = w.alloc (.cells #[.string s, .int .i64 v, .int .i64 st, .int .i64 ti] 24) := ⟨_, rfl⟩
  have hG := GBx.fresh w s v st ti
  have hB0 : Below w.heap.size w W := by rw [hW]; exact (Below.refl _ w).alloc (Nat.le_refl _) _
  rw [← hW] at hG
  have HP := Lib.hid hG.lt
  have HG := Lib.hid hG
  have HW := Lib.hid hW
  have HB0 := Lib.hid hB0
  have hB := Below.refl W.heap.size W
  obtain ⟨-, c0, c1, c2, c3⟩ := hG
  clear hW hB0
  generalize atT s v st ti t = R at *
  generalize ofT s v st ti t = O at *
  generalize errG s.data.toList v st ti = k at *
  by_cases h1 : k = 0
  · subst h1
    rw [if_neg (by decide)] at hV
    subst hV
    have HO := Lib.hid (hO rfl)
    clear hO
    go_enter Tryz.func34, Tryz.ntmps34
    go_wp2_with fail
    rw [← HW.out]
    go_wp2_with (first | (go_at_call 25; with_reducible refine (HC.out _).mono ?_; rintro e wk ⟨rfl, hb⟩; replace hB := hB.trans (hb.mono hB.size); clear hb; obtain ⟨-, c0, c1, c2, c3⟩ := HG.out.below HP.out hB) | (go_at_call 60; with_reducible refine (HO.out _).mono ?_; rintro e wk ⟨rfl, hb⟩; replace hB := hB.trans (hb.mono hB.size); clear hb; obtain ⟨-, c0, c1, c2, c3⟩ := HG.out.below HP.out hB))
    go_ret2
    exact ⟨rfl, HB0.out.trans (hB.mono HB0.out.size)⟩
  · rw [if_pos h1] at hV
    subst hV
    have g1 : (k == 0) = false := by simpa using h1
    have g2 : (k != 0) = true := by simpa using h1
    clear hO h1
    go_enter Tryz.func34, Tryz.ntmps34
    go_wp2_with fail
    rw [← HW.out]
    go_wp2_with (first | (go_at_call 25; with_reducible refine (HC.out _).mono ?_; rintro e wk ⟨rfl, hb⟩; replace hB := hB.trans (hb.mono hB.size); clear hb; obtain ⟨-, c0, c1, c2, c3⟩ := HG.out.below HP.out hB))
    go_ret2
    exact ⟨rfl, HB0.out.trans (hB.mono HB0.out.size)⟩
set_option maxRecDepth 100000 in
set_option maxHeartbeats 4000000 in
theorem r3ended_any (s : ByteArray) (v st ti t : Int) (w : World) (s0 : 0 ≤ st) (s1 : st ≤ 10000000) (i0 : 0 ≤ ti) (i1 : ti ≤ 10000000) :
    Calls Tryz.prog 73 #[.agg #[.string s, .int .i64 v, .int .i64 st, .int .i64 ti], .int .i64 t] w fun e w' => e = .returned (.bool (decide (st + ti ≤ t))) ∧ Below w.heap.size w w' := by
  go_enter Tryz.func73, Tryz.ntmps73
  go_wp2
  go_ret
  exact ⟨by first | rfl | simp, (Below.refl _ _).alloc (Nat.le_refl _) _⟩
set_option maxRecDepth 100000 in
set_option maxHeartbeats 4000000 in
theorem r3done_any (s : ByteArray) (v st ti t : Int) (w : World) (hs : s.size ≤ 1000) :
    Calls Tryz.prog 35 #[.agg #[.string s, .int .i64 v, .int .i64 st, .int .i64 ti], .int .i64 t] w fun e w' => e = .returned (.tuple #[.bool (doneT s v st ti t), .int .i64 (errG s.data.toList v st ti)]) ∧ Below w.heap.size w w' := by
  have HC := Lib.hid (fun w => r3check_any s v st ti w hs)
  have hz := errG_zero (s := s) (v := v) (st := st) (ti := ti) hs
  have hV : doneT s v st ti t = (decide (errG s.data.toList v st ti = 0) && decide (st + ti ≤ t)) := rfl
  obtain ⟨W, hW⟩ : ∃ W, W = w.alloc (.cells #[.string s, .int .i64 v, .int .i64 st, .int .i64 ti] 24) := ⟨_, rfl⟩
  have hG := GBx.fresh w s v st ti
  have hB0 : Below w.heap.size w W := by rw [hW]; exact (Below.refl _ w).alloc (Nat.le_refl _) _
  rw [← hW] at hG
  have HP := Lib.hid hG.lt
  have HG := Lib.hid hG
  have HW := Lib.hid hW
  have HB0 := Lib.hid hB0
  have hB := Below.refl W.heap.size W
  obtain ⟨-, c0, c1, c2, c3⟩ := hG
  clear hW hB0
  generalize doneT s v st ti t = R at *
  generalize errG s.data.toList v st ti = k at *
  by_cases h1 : k = 0
  · subst h1
    obtain ⟨r, -, -, -, -, v0, v1, s0, s1, i0, i1⟩ := hz rfl
    have HO := Lib.hid (fun w => r3ended_any s v st ti t w s0 s1 i0 i1)
    simp only [decide_true, Bool.true_and] at hV
    rw [hV]
    generalize decide (st + ti ≤ t) = b at *
    clear hz hV
    go_enter Tryz.func35, Tryz.ntmps35
    go_wp2_with fail
    rw [← HW.out]
    go_wp2_with (first | (go_at_call 25; with_reducible refine (HC.out _).mono ?_; rintro e wk ⟨rfl, hb⟩; replace hB := hB.trans (hb.mono hB.size); clear hb; obtain ⟨-, c0, c1, c2, c3⟩ := HG.out.below HP.out hB) | (go_at_call 73; with_reducible refine (HO.out _).mono ?_; rintro e wk ⟨rfl, hb⟩; replace hB := hB.trans (hb.mono hB.size); clear hb; obtain ⟨-, c0, c1, c2, c3⟩ := HG.out.below HP.out hB))
    go_ret2
    exact ⟨rfl, HB0.out.trans (hB.mono HB0.out.size)⟩
  · have hV : R = false := by rw [hV, decide_eq_false h1]; rfl
    subst hV
    have g1 : (k == 0) = false := by simpa using h1
    have g2 : (k != 0) = true := by simpa using h1
    clear hz h1
    go_enter Tryz.func35, Tryz.ntmps35
    go_wp2_with fail
    rw [← HW.out]
    go_wp2_with (first | (go_at_call 25; with_reducible refine (HC.out _).mono ?_; rintro e wk ⟨rfl, hb⟩; replace hB := hB.trans (hb.mono hB.size); clear hb; obtain ⟨-, c0, c1, c2, c3⟩ := HG.out.below HP.out hB))
    go_ret2
    exact ⟨rfl, HB0.out.trans (hB.mono HB0.out.size)⟩
end Go.Proofs.YtjnhdimllllgaaaGreatDoor

namespace Go.Proofs.YtjnhdimllllgaaaGreatDoor
open Go.RowKit

theorem results_cell1 {fn : Func} {p : Tmp} {ty : TypeId} (h : fn.results = #[.cell p ty]) (tmps : Array Value) (P : Program) (w : World) :
    (results fn tmps).run P w = ((asAddr (tmps.getD p undef)).run P w).andThen fun a w₁ => (loadVar ty a).run P w₁ := by
  simp only [results, h]
  simp [Sem.run_bind, Result.andThen]
def fullV : Value := .agg #[.string (sR ((65535 : Int) : Rat)), .int .i64 65535, .int .i64 0, .int .i64 0]
def zeroV : Value := .agg #[.string (sR ((0 : Int) : Rat)), .int .i64 0, .int .i64 0, .int .i64 0]
set_option maxRecDepth 100000 in
set_option maxHeartbeats 4000000 in
theorem gfull_any (w : World) (ht : Tab w) : Calls Tryz.prog 36 #[] w fun e w' => e = .returned fullV ∧ Below w.heap.size w w' := by
  unfold fullV
  have HW := Lib.hid (fun w ht => qwhole_fit (x := 65535) (by decide) (by decide) w ht)
  generalize sR ((65535 : Int) : Rat) = R at *
  obtain ⟨W, hW⟩ : ∃ W, W = w.alloc (.cells #[.string ⟨#[]⟩, .int .i64 0, .int .i64 0, .int .i64 0] 24) := ⟨_, rfl⟩
  have hB0 : Below w.heap.size w W := by rw [hW]; exact (Below.refl _ w).alloc (Nat.le_refl _) _
  have HR := Lib.hid (show RCell w.heap.size W by rw [hW]; exact RCell.fresh _ _ (by simp))
  have HQ := Lib.hid HR.out.lt
  have HW0 := Lib.hid hW
  have HB0 := Lib.hid hB0
  have hB := Below.refl W.heap.size W
  clear hW hB0
  have HT := Lib.hid (ht.below HB0.out)
  clear ht
  go_enter Tryz.func36, Tryz.ntmps36
  go_wp2_with fail
  rw [← HW0.out]
  go_wp2_with (first | (go_at_call 63; with_reducible refine (HW.out _ (HT.out.below hB)).mono ?_; rintro e wk ⟨rfl, hb⟩; replace hB := hB.trans (hb.mono hB.size); clear hb; obtain ⟨-, k0, k1, k2, k3, f0, f1, f2, f3⟩ := HR.out.below HQ.out hB))
  have hb := HB0.out.trans (hB.mono HB0.out.size)
  have hn := hb.size
  (try simp only [Exit.inBlock, Exit.then])
  refine bodyPost_ret ?_ rfl ⟨rfl, ?_⟩
  · rw [results_cell1 rfl]
    go_simp
  · (repeat (first | exact Below.refl _ _ | assumption | apply Below.drew | apply below_drewN | (refine Below.alloc ?_ (by first | omega | (simp; omega) | simp) _) | (refine Below.setCell ?_ (by first | omega | (simp; omega) | simp) _) | (refine Below.trans ?_ (Below.mono (by assumption) (by first | omega | (simp; omega) | simp)))))
set_option maxRecDepth 100000 in
set_option maxHeartbeats 4000000 in
theorem gzero_any (w : World) (ht : Tab w) : Calls Tryz.prog 38 #[] w fun e w' => e = .returned zeroV ∧ Below w.heap.size w w' := by
  unfold zeroV
  have HW := Lib.hid (fun w ht => qwhole_fit (x := 0) (by decide) (by decide) w ht)
  generalize sR ((0 : Int) : Rat) = R at *
  obtain ⟨W, hW⟩ : ∃ W, W = w.alloc (.cells #[.string ⟨#[]⟩, .int .i64 0, .int .i64 0, .int .i64 0] 24) := ⟨_, rfl⟩
  have hB0 : Below w.heap.size w W := by rw [hW]; exact (Below.refl _ w).alloc (Nat.le_refl _) _
  have HR := Lib.hid (show RCell w.heap.size W by rw [hW]; exact RCell.fresh _ _ (by simp))
  have HQ := Lib.hid HR.out.lt
  have HW0 := Lib.hid hW
  have HB0 := Lib.hid hB0
  have hB := Below.refl W.heap.size W
  clear hW hB0
  have HT := Lib.hid (ht.below HB0.out)
  clear ht
  go_enter Tryz.func38, Tryz.ntmps38
  go_wp2_with fail
  rw [← HW0.out]
  go_wp2_with (first | (go_at_call 63; with_reducible refine (HW.out _ (HT.out.below hB)).mono ?_; rintro e wk ⟨rfl, hb⟩; replace hB := hB.trans (hb.mono hB.size); clear hb; obtain ⟨-, k0, k1, k2, k3, f0, f1, f2, f3⟩ := HR.out.below HQ.out hB))
  have hb := HB0.out.trans (hB.mono HB0.out.size)
  have hn := hb.size
  (try simp only [Exit.inBlock, Exit.then])
  refine bodyPost_ret ?_ rfl ⟨rfl, ?_⟩
  · rw [results_cell1 rfl]
    go_simp
  · (repeat (first | exact Below.refl _ _ | assumption | apply Below.drew | apply below_drewN | (refine Below.alloc ?_ (by first | omega | (simp; omega) | simp) _) | (refine Below.setCell ?_ (by first | omega | (simp; omega) | simp) _) | (refine Below.trans ?_ (Below.mono (by assumption) (by first | omega | (simp; omega) | simp)))))
set_option maxRecDepth 100000 in
set_option maxHeartbeats 4000000 in
theorem r3full_any (w : World) : Calls Tryz.prog 37 #[] w fun e w' => e = .returned fullV ∧ Below w.heap.size w w' := by
  unfold fullV
  have HW := Lib.hid (fun w => swhole_fit (x := 65535) (by decide) (by decide) w)
  generalize sR ((65535 : Int) : Rat) = R at *
  obtain ⟨W, hW⟩ : ∃ W, W = w.alloc (.cells #[.string ⟨#[]⟩, .int .i64 0, .int .i64 0, .int .i64 0] 24) := ⟨_, rfl⟩
  have hB0 : Below w.heap.size w W := by rw [hW]; exact (Below.refl _ w).alloc (Nat.le_refl _) _
  have HR := Lib.hid (show RCell w.heap.size W by rw [hW]; exact RCell.fresh _ _ (by simp))
  have HQ := Lib.hid HR.out.lt
  have HW0 := Lib.hid hW
  have HB0 := Lib.hid hB0
  have hB := Below.refl W.heap.size W
  clear hW hB0
  go_enter Tryz.func37, Tryz.ntmps37
  go_wp2_with fail
  rw [← HW0.out]
  go_wp2_with (first | (go_at_call 32; with_reducible refine (HW.out _).mono ?_; rintro e wk ⟨rfl, hb⟩; replace hB := hB.trans (hb.mono hB.size); clear hb; obtain ⟨-, k0, k1, k2, k3, f0, f1, f2, f3⟩ := HR.out.below HQ.out hB))
  have hb := HB0.out.trans (hB.mono HB0.out.size)
  have hn := hb.size
  (try simp only [Exit.inBlock, Exit.then])
  refine bodyPost_ret ?_ rfl ⟨rfl, ?_⟩
  · rw [results_cell1 rfl]
    go_simp
  · (repeat (first | exact Below.refl _ _ | assumption | apply Below.drew | apply below_drewN | (refine Below.alloc ?_ (by first | omega | (simp; omega) | simp) _) | (refine Below.setCell ?_ (by first | omega | (simp; omega) | simp) _) | (refine Below.trans ?_ (Below.mono (by assumption) (by first | omega | (simp; omega) | simp)))))
set_option maxRecDepth 100000 in
set_option maxHeartbeats 4000000 in
theorem r3zero_any (w : World) : Calls Tryz.prog 39 #[] w fun e w' => e = .returned zeroV ∧ Below w.heap.size w w' := by
  unfold zeroV
  rw [show ((0 : Int) : Rat) = 0 from rfl, ← sR_zero]
  have hB := Below.refl w.heap.size w
  go_enter Tryz.func39, Tryz.ntmps39
  go_wp2_with fail
  (try simp only [Exit.inBlock, Exit.then])
  refine bodyPost_ret ?_ rfl ⟨rfl, ?_⟩
  · rw [results_cell1 rfl]
    go_simp
  · (repeat (first | exact Below.refl _ _ | assumption | apply Below.drew | apply below_drewN | (refine Below.alloc ?_ (by first | omega | (simp; omega) | simp) _) | (refine Below.setCell ?_ (by first | omega | (simp; omega) | simp) _) | (refine Below.trans ?_ (Below.mono (by assumption) (by first | omega | (simp; omega) | simp)))))
set_option maxRecDepth 100000 in
set_option maxHeartbeats 4000000 in
theorem r3gone_any (s : ByteArray) (v st ti t u d : Int) (w : World) (hs : s.size ≤ 1000) (t0 : -9223372036854775808 ≤ t) (t1 : t ≤ 9223372036854775807) (h1 : errG s.data.toList v st ti = 0) :
    Calls Tryz.prog 59 #[.agg #[.string s, .int .i64 v, .int .i64 st, .int .i64 ti], .int .i64 t, .int .i64 u, .int .i64 d] w fun e w' => e = .returned (.agg #[.string (ofT s v st ti t), .int .i64 u, .int .i64 t, .int .i64 d]) ∧ Below w.heap.size w w' := by
  have HO := Lib.hid (fun w => r3of_any s v st ti t w hs t0 t1 h1)
  obtain ⟨W, hW⟩ : ∃ W, W = (w.alloc (.cells #[.string s, .int .i64 v, .int .i64 st, .int .i64 ti] 24)).alloc (.cells #[.string ⟨#[]⟩, .int .i64 0, .int .i64 0, .int .i64 0] 24) := ⟨_, rfl⟩
  have hG := GBx.fresh w s v st ti
  have hb1 : Below w.heap.size w (w.alloc (.cells #[.string s, .int .i64 v, .int .i64 st, .int .i64 ti] 24)) := (Below.refl _ w).alloc (Nat.le_refl _) _
  have hB0 : Below w.heap.size w W := by rw [hW]; exact hb1.alloc hb1.size _
  have hG : GBx s v st ti w.heap.size W := by rw [hW]; exact hG.below hG.lt ((Below.refl _ _).alloc (Nat.le_refl _) _)
  have HR := Lib.hid (show RCell (w.heap.size + 1) W by rw [hW]; exact RCell.fresh _ _ (by simp))
  have HP := Lib.hid hG.lt
  have HQ := Lib.hid HR.out.lt
  have HG := Lib.hid hG
  have HW := Lib.hid hW
  have HB0 := Lib.hid hB0
  have hB := Below.refl W.heap.size W
  obtain ⟨-, c0, c1, c2, c3⟩ := hG
  clear hW hB0 hb1
  generalize ofT s v st ti t = R at *
  clear h1 hs
  go_enter Tryz.func59, Tryz.ntmps59
  go_wp2_with fail
  rw [← HW.out]
  go_wp2_with (first | (go_at_call 60; with_reducible refine (HO.out _).mono ?_; rintro e wk ⟨rfl, hb⟩; replace hB := hB.trans (hb.mono hB.size); clear hb; obtain ⟨-, c0, c1, c2, c3⟩ := HG.out.below HP.out hB; obtain ⟨-, k0, k1, k2, k3, f0, f1, f2, f3⟩ := HR.out.below HQ.out hB))
  have hb := HB0.out.trans (hB.mono HB0.out.size)
  have hn := hb.size
  (try simp only [Exit.inBlock, Exit.then])
  refine bodyPost_ret ?_ rfl ⟨rfl, ?_⟩
  · rw [results_cell1 rfl]
    go_simp
  · (repeat (first | exact Below.refl _ _ | assumption | apply Below.drew | apply below_drewN | (refine Below.alloc ?_ (by first | omega | (simp; omega) | simp) _) | (refine Below.setCell ?_ (by first | omega | (simp; omega) | simp) _) | (refine Below.trans ?_ (Below.mono (by assumption) (by first | omega | (simp; omega) | simp)))))
set_option maxRecDepth 100000 in
set_option maxHeartbeats 4000000 in
theorem r3go_any (s : ByteArray) (v st ti t u d : Int) (w : World) (hs : s.size ≤ 1000) (t0 : -9223372036854775808 ≤ t) (t1 : t ≤ 9223372036854775807) :
    Calls Tryz.prog 15 #[.agg #[.string s, .int .i64 v, .int .i64 st, .int .i64 ti], .int .i64 t, .int .i64 u, .int .i64 d] w fun e w' => e = .returned (.tuple #[goT s v st ti t u d, .int .i64 (errGo s.data.toList v st ti t u d)]) ∧ Below w.heap.size w w' := by
  have HC := Lib.hid (fun w => r3check_any s v st ti w hs)
  have hO := fun w h => r3gone_any s v st ti t u d w hs t0 t1 h
  have HT1 := Lib.hid (fun w => r3timeB t w)
  have HT2 := Lib.hid (fun w => r3timeB d w)
  have HWh := Lib.hid (fun w => r3wholeB u w)
  obtain ⟨W, hW⟩ : ∃ W, W = (w.alloc (.cells #[.string s, .int .i64 v, .int .i64 st, .int .i64 ti] 24)).alloc (.cells #[.string ⟨#[]⟩, .int .i64 0, .int .i64 0, .int .i64 0] 24) := ⟨_, rfl⟩
  have hG := GBx.fresh w s v st ti
  have hb1 : Below w.heap.size w (w.alloc (.cells #[.string s, .int .i64 v, .int .i64 st, .int .i64 ti] 24)) := (Below.refl _ w).alloc (Nat.le_refl _) _
  have hB0 : Below w.heap.size w W := by rw [hW]; exact hb1.alloc hb1.size _
  have hG : GBx s v st ti w.heap.size W := by rw [hW]; exact hG.below hG.lt ((Below.refl _ _).alloc (Nat.le_refl _) _)
  have HR := Lib.hid (show RCell (w.heap.size + 1) W by rw [hW]; exact RCell.fresh _ _ (by simp))
  have HP := Lib.hid hG.lt
  have HQ := Lib.hid HR.out.lt
  have HG := Lib.hid hG
  have HW := Lib.hid hW
  have HB0 := Lib.hid hB0
  have hB := Below.refl W.heap.size W
  obtain ⟨-, c0, c1, c2, c3⟩ := hG
  clear hW hB0 hb1
  have hE : errGo s.data.toList v st ti t u d = if errG s.data.toList v st ti ≠ 0 then errG s.data.toList v st ti else if ((inT 10000000 t && inT 10000000 d) && inT 65535 u) = true then 0 else 2 := rfl
  have hV : goT s v st ti t u d = if errGo s.data.toList v st ti t u d ≠ 0 then .agg #[.string ⟨#[]⟩, .int .i64 0, .int .i64 0, .int .i64 0] else .agg #[.string (ofT s v st ti t), .int .i64 u, .int .i64 t, .int .i64 d] := rfl
  generalize goT s v st ti t u d = R at *
  generalize errGo s.data.toList v st ti t u d = k at *
  generalize errG s.data.toList v st ti = k1 at *
  generalize inT 10000000 t = b1 at *
  generalize inT 10000000 d = b2 at *
  generalize inT 65535 u = b3 at *
  by_cases h1 : k1 = 0
  · subst h1
    have HO := Lib.hid (fun w => hO w rfl)
    generalize ofT s v st ti t = S at *
    clear hO hs
    cases b1 <;> cases b2 <;> cases b3
    all_goals
      simp at hE
      subst hE
      simp at hV
      subst hV
      go_enter Tryz.func15, Tryz.ntmps15
      go_wp2_with fail
      rw [← HW.out]
      go_wp2_with (first | (go_at_call 25; with_reducible refine (HC.out _).mono ?_; rintro e wk ⟨rfl, hb⟩; replace hB := hB.trans (hb.mono hB.size); clear hb; obtain ⟨-, c0, c1, c2, c3⟩ := HG.out.below HP.out hB; obtain ⟨-, k0, k1, k2, k3, f0, f1, f2, f3⟩ := HR.out.below HQ.out hB) | (go_at_call 26; with_reducible refine (HT1.out _).mono ?_; rintro e wk ⟨rfl, hb⟩; replace hB := hB.trans (hb.mono hB.size); clear hb; obtain ⟨-, c0, c1, c2, c3⟩ := HG.out.below HP.out hB; obtain ⟨-, k0, k1, k2, k3, f0, f1, f2, f3⟩ := HR.out.below HQ.out hB) | (go_at_call 26; with_reducible refine (HT2.out _).mono ?_; rintro e wk ⟨rfl, hb⟩; replace hB := hB.trans (hb.mono hB.size); clear hb; obtain ⟨-, c0, c1, c2, c3⟩ := HG.out.below HP.out hB; obtain ⟨-, k0, k1, k2, k3, f0, f1, f2, f3⟩ := HR.out.below HQ.out hB) | (go_at_call 27; with_reducible refine (HWh.out _).mono ?_; rintro e wk ⟨rfl, hb⟩; replace hB := hB.trans (hb.mono hB.size); clear hb; obtain ⟨-, c0, c1, c2, c3⟩ := HG.out.below HP.out hB; obtain ⟨-, k0, k1, k2, k3, f0, f1, f2, f3⟩ := HR.out.below HQ.out hB) | (go_at_call 59; with_reducible refine (HO.out _).mono ?_; rintro e wk ⟨rfl, hb⟩; replace hB := hB.trans (hb.mono hB.size); clear hb; obtain ⟨-, c0, c1, c2, c3⟩ := HG.out.below HP.out hB; obtain ⟨-, k0, k1, k2, k3, f0, f1, f2, f3⟩ := HR.out.below HQ.out hB))
      have hb := HB0.out.trans (hB.mono HB0.out.size)
      have hn := hb.size
      (try simp only [Exit.inBlock, Exit.then])
      refine bodyPost_ret ?_ rfl ⟨rfl, ?_⟩
      · rw [results_cell_tmp rfl]
        go_simp
      · (repeat (first | exact Below.refl _ _ | assumption | apply Below.drew | apply below_drewN | (refine Below.alloc ?_ (by first | omega | (simp; omega) | simp) _) | (refine Below.setCell ?_ (by first | omega | (simp; omega) | simp) _) | (refine Below.trans ?_ (Below.mono (by assumption) (by first | omega | (simp; omega) | simp)))))
  · have g1 : (k1 == 0) = false := by simpa using h1
    have g2 : (k1 != 0) = true := by simpa using h1
    rw [if_pos h1] at hE
    rw [hE, if_pos h1] at hV
    subst hE
    subst hV
    clear hO hs h1
    go_enter Tryz.func15, Tryz.ntmps15
    go_wp2_with fail
    rw [← HW.out]
    go_wp2_with (first | (go_at_call 25; with_reducible refine (HC.out _).mono ?_; rintro e wk ⟨rfl, hb⟩; replace hB := hB.trans (hb.mono hB.size); clear hb; obtain ⟨-, c0, c1, c2, c3⟩ := HG.out.below HP.out hB; obtain ⟨-, k0, k1, k2, k3, f0, f1, f2, f3⟩ := HR.out.below HQ.out hB))
    have hb := HB0.out.trans (hB.mono HB0.out.size)
    have hn := hb.size
    (try simp only [Exit.inBlock, Exit.then])
    refine bodyPost_ret ?_ rfl ⟨rfl, ?_⟩
    · rw [results_cell_tmp rfl]
      go_simp
    · (repeat (first | exact Below.refl _ _ | assumption | apply Below.drew | apply below_drewN | (refine Below.alloc ?_ (by first | omega | (simp; omega) | simp) _) | (refine Below.setCell ?_ (by first | omega | (simp; omega) | simp) _) | (refine Below.trans ?_ (Below.mono (by assumption) (by first | omega | (simp; omega) | simp)))))
end Go.Proofs.YtjnhdimllllgaaaGreatDoor
