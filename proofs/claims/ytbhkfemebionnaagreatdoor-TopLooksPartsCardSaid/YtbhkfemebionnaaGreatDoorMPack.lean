/- Lemmas and contracts of functions, joined for the claim: LkCn, LkPa. -/
import Derived.Test.YtbhkfemebionnaaGreatDoorMVal
import Derived.Deep.RegionLaw
import Derived.Lib.SliceRun
import Derived.Test.YtbhkfemebionnaaGreatDoorMPmB
import Derived.Test.YtbhkfemebionnaaGreatDoorMFour
import Derived.WalkMore
namespace Go.Proofs.YtbhkfemebionnaaGreatDoor
open Go.RowKit

theorem infoCu : (Tryz.prog.info? 34).map (fun i => (i.zero, i.size, i.bytes)) = some (some (.agg #[.string ⟨#[]⟩, .string ⟨#[]⟩, .slice none 0 0, .slice none 0 0, .bool false, .bool false, .int .i64 0, .string ⟨#[]⟩, .int .i64 0]), 9, 120) := by kernel_rfl
theorem infoMv : (Tryz.prog.info? 43).map (fun i => (i.zero, i.size, i.bytes)) = some (some (.agg #[.int .i64 0, .int .i64 0, .int .i64 0, .int .i64 0, .int .i64 0]), 5, 40) := by kernel_rfl
theorem mvq_one (a b c d e : Int) : ∀ v ∈ [Value.int .i64 a, .int .i64 b, .int .i64 c, .int .i64 d, .int .i64 e], v.oneCell' = true := by simp; exact ⟨rfl, rfl, rfl, rfl, rfl⟩
theorem infoTm : (Tryz.prog.info? 26).map (fun i => (i.zero, i.size, i.bytes)) = some (some (.agg #[.int .i64 0, .int .i64 0, .int .i64 0, .int .i64 0, .int .i64 0, .int .i64 0]), 6, 48) := by kernel_rfl
theorem tmq_one (a b c d e f : Int) : ∀ v ∈ [Value.int .i64 a, .int .i64 b, .int .i64 c, .int .i64 d, .int .i64 e, .int .i64 f], v.oneCell' = true := by simp; exact ⟨rfl, rfl, rfl, rfl, rfl, rfl⟩
set_option maxRecDepth 100000 in
set_option maxHeartbeats 4000000 in
theorem clone_mvs (A : Option Addr) (n c : Nat) (l : List Mv) (w : World) (hl : shMv.In w A n l) (hn : n ≤ 1000) :
    Calls Tryz.prog 27 #[.slice A n c] w fun e w' => ∃ v', e = .returned v' ∧ w'.ownsRow w.heap.size 43 5 v' n (shMv.vs l) ∧ Below w.heap.size w w' := by
  obtain ⟨i0, hi, hz0, hzz1, hz2⟩ := info_parts infoMv
  have q22 : ∀ (w : World) (a : Option Addr) (n c n' c' : Nat), (binOp .eql 31 (.slice a n c) (.slice none n' c')).run Tryz.prog w = .ok (.bool a.isNone) w := fun w a n c n' c' => Lib.run_eql_slice_nil w _ _ a n c n' c' Tryz.underlying31
  cases A with
  | none =>
    obtain rfl : l = [] := by
      match l, hl with
      | [], _ => rfl
      | a :: t, hl => obtain ⟨b, o, e, _⟩ := hl.at_ (by simp); cases e
    obtain ⟨rfl, _⟩ := hl
    clear hi hz0 hzz1 hz2
    go_enter Tryz.func27, Tryz.ntmps27
    go_wp2
    go_ret
    exact ⟨_, rfl, World.ownsRow_nil _ _ _ _, Below.refl _ _⟩
  | some a =>
    have hlen : (shMv.vs l).length = n * 5 := by rw [shMv.vs_length, ← hl.1]; rfl
    have hnews : Hid (∀ j u, (shMv.vs l)[j]? = some u → w.cell? (a.add j) = some u) := Lib.hid (fun j u hu => by
      have hlt : j < (shMv.vs l).length := (List.getElem?_eq_some_iff.1 hu).1
      obtain ⟨b, o, e, hb, hc⟩ := hl.2.2 (by omega)
      injection e with e
      subst e
      have := hc j u hu
      rwa [show ((⟨b, o, none⟩ : Addr).add j) = ⟨b, o + j, none⟩ by unfold Addr.add; split <;> simp_all])
    have hone := shMv.vs_one l
    generalize shMv.vs l = L at *
    clear hl
    go_enter Tryz.func27, Tryz.ntmps27
    go_wp2_with (at_builtin; refine wpList_append_own _ rfl _ _ 31 rfl w.heap.size 43 i0 _ 5 40 Tryz.underlying31 hi hz0 hzz1 hz2 rfl (by decide) _ _ _ rfl (World.ownsRow_made w #[] 0 (Nat.le_refl _) (Nat.zero_le _) (by simp)) a n c L rfl hlen (fun j u hj => Lib.cell?_alloc_some _ (hnews.out j u hj)) hone (by unfold maxLen; omega) (by omega) (by simp) ?_)
    intro v' w1 hown hgrow hnil
    clear hnil
    go_wp2
    go_ret
    refine ⟨v', rfl, by simpa using hown, ?_⟩
    exact ((Below.refl _ w).alloc (Nat.le_refl _) _).grown hgrow (by simp) (by intro k hk; simp [Value.ownBlock] at hk; omega)
set_option maxRecDepth 100000 in
set_option maxHeartbeats 4000000 in
theorem clone_cus (A : Option Addr) (n c : Nat) (l : List Cu) (w : World) (hl : shCu.In w A n l) (hn : n ≤ 1000) :
    Calls Tryz.prog 8 #[.slice A n c] w fun e w' => ∃ v', e = .returned v' ∧ w'.ownsRow w.heap.size 34 9 v' n (shCu.vs l) ∧ Below w.heap.size w w' := by
  obtain ⟨i0, hi, hz0, hzz1, hz2⟩ := info_parts infoCu
  have q22 : ∀ (w : World) (a : Option Addr) (n c n' c' : Nat), (binOp .eql 22 (.slice a n c) (.slice none n' c')).run Tryz.prog w = .ok (.bool a.isNone) w := fun w a n c n' c' => Lib.run_eql_slice_nil w _ _ a n c n' c' Tryz.underlying22
  cases A with
  | none =>
    obtain rfl : l = [] := by
      match l, hl with
      | [], _ => rfl
      | a :: t, hl => obtain ⟨b, o, e, _⟩ := hl.at_ (by simp); cases e
    obtain ⟨rfl, _⟩ := hl
    clear hi hz0 hzz1 hz2
    go_enter Tryz.func8, Tryz.ntmps8
    go_wp2
    go_ret
    exact ⟨_, rfl, World.ownsRow_nil _ _ _ _, Below.refl _ _⟩
  | some a =>
    have hlen : (shCu.vs l).length = n * 9 := by rw [shCu.vs_length, ← hl.1]; rfl
    have hnews : Hid (∀ j u, (shCu.vs l)[j]? = some u → w.cell? (a.add j) = some u) := Lib.hid (fun j u hu => by
      have hlt : j < (shCu.vs l).length := (List.getElem?_eq_some_iff.1 hu).1
      obtain ⟨b, o, e, hb, hc⟩ := hl.2.2 (by omega)
      injection e with e
      subst e
      have := hc j u hu
      rwa [show ((⟨b, o, none⟩ : Addr).add j) = ⟨b, o + j, none⟩ by unfold Addr.add; split <;> simp_all])
    have hone := shCu.vs_one l
    generalize shCu.vs l = L at *
    clear hl
    go_enter Tryz.func8, Tryz.ntmps8
    go_wp2_with (at_builtin; refine wpList_append_own _ rfl _ _ 22 rfl w.heap.size 34 i0 _ 9 120 Tryz.underlying22 hi hz0 hzz1 hz2 rfl (by decide) _ _ _ rfl (World.ownsRow_made w #[] 0 (Nat.le_refl _) (Nat.zero_le _) (by simp)) a n c L rfl hlen (fun j u hj => Lib.cell?_alloc_some _ (hnews.out j u hj)) hone (by unfold maxLen; omega) (by omega) (by simp) ?_)
    intro v' w1 hown hgrow hnil
    clear hnil
    go_wp2
    go_ret
    refine ⟨v', rfl, by simpa using hown, ?_⟩
    exact ((Below.refl _ w).alloc (Nat.le_refl _) _).grown hgrow (by simp) (by intro k hk; simp [Value.ownBlock] at hk; omega)
end Go.Proofs.YtbhkfemebionnaaGreatDoor

namespace Go.Proofs.YtbhkfemebionnaaGreatDoor
open Go.RowKit

def ikP (x : Int) : Value := .int .i64 x
def mpL (L : List (Int × Int)) : List (Int × Value) := L.map fun p => (p.1, .int .i64 p.2)
theorem mpL_find (k : Int) : ∀ (L : List (Int × Int)) (i j : Nat) (v : Value), findL (mpL L) k i = some (j, v) → ∃ n : Int, v = .int .i64 n
  | [], _, _, _, h => by cases h
  | (a, b) :: L, i, j, v, h => by
    show ∃ n : Int, v = .int .i64 n
    have h : (if k = a then some (i, Value.int .i64 b) else findL (mpL L) k (i + 1)) = some (j, v) := h
    by_cases hk : k = a
    · rw [if_pos hk] at h
      injection h with h
      injection h with h1 h2
      exact ⟨b, h2.symm⟩
    · rw [if_neg hk] at h
      exact mpL_find k L _ _ _ h
theorem mpL_look (L : List (Int × Int)) (k : Int) : ∃ n : Int, lookV false (mpL L) k (.int .i64 0) = .int .i64 n := by
  unfold lookV lookL
  cases h : findL (mpL L) k 0 with
  | none => exact ⟨0, rfl⟩
  | some x =>
    obtain ⟨j, v⟩ := x
    obtain ⟨n, rfl⟩ := mpL_find k L _ _ _ h
    exact ⟨n, rfl⟩
theorem mpL_none (k : Int) : ∀ (L : List (Int × Int)) (i : Nat), (∀ p ∈ L, p.1 ≠ k) → findL (mpL L) k i = none
  | [], _, _ => rfl
  | (a, b) :: L, i, h => by
    show (if k = a then some (i, Value.int .i64 b) else findL (mpL L) k (i + 1)) = none
    rw [if_neg (fun e => h _ (List.mem_cons_self ..) e.symm)]
    exact mpL_none k L _ fun p hp => h p (List.mem_cons_of_mem _ hp)
theorem mpL_push (L : List (Int × Int)) (k n : Int) : mpL L ++ [(k, .int .i64 n)] = mpL (L ++ [(k, n)]) := by unfold mpL; simp
theorem vs_setM : ∀ (l : List Mv) (k : Nat) (_ : k < l.length) (n : Int), (shMv.vs l).set (k * 5 + 4) (.int .i64 n) = shMv.vs (l.set k ⟨l[k].ch, l[k].atr, l[k].pa, l[k].le, n⟩)
  | a :: t, 0, _, _ => rfl
  | a :: t, k + 1, h, n => by
    have ih := vs_setM t k (by simpa using h) n
    show (Value.int .i64 a.ch :: .int .i64 a.atr :: .int .i64 a.pa :: .int .i64 a.le :: .int .i64 a.pt :: shMv.vs t).set ((k + 1) * 5 + 4) _ = .int .i64 a.ch :: .int .i64 a.atr :: .int .i64 a.pa :: .int .i64 a.le :: .int .i64 a.pt :: shMv.vs (t.set k _)
    rw [show (k + 1) * 5 + 4 = k * 5 + 4 + 1 + 1 + 1 + 1 + 1 by omega]
    simp only [List.set_cons_succ]
    rw [ih]
    rfl
theorem row_ne_own {w : World} {Q base z n : Nat} {c : Array Value} {t e : TypeId} {v : Value} {xs : List Value} (hR : RowAt w Q c t) (ho : w.ownsRow base e z v n xs) (hne : t ≠ e) : v.ownBlock ≠ some Q := by
  intro h
  rcases ho.2 with ⟨rfl, _⟩ | ⟨g, cap, cur, rfl, _, hgg, _⟩
  · cases h
  · injection h with h
    subst h
    have h' : w.heap[g]? = some (.cells c t (0, 0)) := hR
    rw [hgg] at h'
    injection h' with h'
    injection h' with h1 h2 h3
    exact hne h2.symm
theorem own_setq {w : World} {Q base z n : Nat} {c : Array Value} {t e : TypeId} {v : Value} {xs : List Value} (ho : w.ownsRow base e z v n xs) (hR : RowAt w Q c t) (hne : t ≠ e) (j : Nat) (u : Value) : (w.setCell ⟨Q, j, none⟩ u).ownsRow base e z v n xs :=
  own_kept2 ho fun b hb => Below.heap_setCell _ _ _ _ (fun h => row_ne_own hR ho hne (by rw [hb]; exact congrArg some h))

def PkR (W1 : World) (num lab : ByteArray) (MA : Option Addr) (mn mc : Nat) (blk mrk : Bool) (fol : Int) (lnk : ByteArray) (lps : Int) (i : Nat) (wr : World) : Prop :=
  ∃ (A : Option Addr) (c : Nat) (T : List Tm) (L : List (Int × Int)), RowAt wr W1.heap.size #[.string num, .string lab, .slice MA mn mc, .slice A T.length c, .bool blk, .bool mrk, .int .i64 fol, .string lnk, .int .i64 lps] 69 ∧ wr.ownsRow W1.heap.size 26 6 (.slice A T.length c) T.length (shTm.vs T) ∧ T.length ≤ i ∧ (0 < i → 0 < T.length) ∧ MapAt ikP wr (W1.heap.size + 1) (mpL L) ∧ (∀ p ∈ L, p.1 ≤ i) ∧ Below W1.heap.size W1 wr
theorem PkR.below {W1 : World} {num lab : ByteArray} {MA : Option Addr} {mn mc : Nat} {blk mrk : Bool} {fol : Int} {lnk : ByteArray} {lps : Int} {i : Nat} {wr w' : World} (h : PkR W1 num lab MA mn mc blk mrk fol lnk lps i wr) (hb : Below wr.heap.size wr w') : PkR W1 num lab MA mn mc blk mrk fol lnk lps i w' := by
  obtain ⟨A, c, T, L, h1, h2, h3, h4, h5, h6, h7⟩ := h
  exact ⟨A, c, T, L, h1.below hb h1.lt, ownq_below h2 hb, h3, h4, h5.below2 hb, h6, h7.trans (hb.mono h7.size)⟩
set_option maxRecDepth 100000 in
set_option maxHeartbeats 32000000 in
theorem npack_any (num lab : ByteArray) (MA : Option Addr) (mn mc : Nat) (PA : Option Addr) (pn pc : Nat) (blk mrk : Bool) (fol : Int) (lnk : ByteArray) (lps : Int) (ms : List Mv) (ts : List Tm) (w : World) (hx : CV.In w ⟨⟨num, lab, MA, mn, mc, PA, pn, pc, blk, mrk, fol, lnk, lps⟩, ms, ts⟩) (hok : CuOK ⟨⟨num, lab, MA, mn, mc, PA, pn, pc, blk, mrk, fol, lnk, lps⟩, ms, ts⟩) (hs1 : num.size ≤ 9223372036854775807) (hs2 : lnk.size ≤ 9223372036854775807) (hc : mn ≤ mc) :
    Calls Tryz.prog 9 #[.agg #[.string num, .string lab, .slice MA mn mc, .slice PA pn pc, .bool blk, .bool mrk, .int .i64 fol, .string lnk, .int .i64 lps]] w fun e w' => ∃ (MA' : Option Addr) (mc' : Nat) (PA' : Option Addr) (pn' pc' : Nat) (ms' : List Mv), e = .returned (.tuple #[.agg #[.string num, .string lab, .slice MA' mn mc', .slice PA' pn' pc', .bool blk, .bool mrk, .int .i64 fol, .string lnk, .int .i64 lps], .int .i64 0]) ∧ shMv.In w' MA' mn ms' ∧ ms'.map Mv.q = ms.map Mv.q ∧ 0 < pn' ∧ pn' ≤ 4 ∧ Below w.heap.size w w' := by
  have hm1 : shMv.In w MA mn ms := hx.1
  have ht1 : shTm.In w PA pn ts := hx.2
  have hmn : mn = ms.length := hm1.1
  have hpn : pn = ts.length := ht1.1
  subst hmn hpn
  have hfew : ms.length ≤ 128 := hok.ms.few
  have ht4 : ts.length ≤ 4 := hok.t4
  have ht0 : 1 ≤ ts.length := hok.t1
  obtain ⟨Wb, hWb⟩ : ∃ Wb, Wb = (w.alloc (.cells #[.string num, .string lab, .slice MA ms.length mc, .slice PA ts.length pc, .bool blk, .bool mrk, .int .i64 fol, .string lnk, .int .i64 lps] 34)).alloc (.cells #[.string ⟨#[]⟩, .string ⟨#[]⟩, .slice none 0 0, .slice none 0 0, .bool false, .bool false, .int .i64 0, .string ⟨#[]⟩, .int .i64 0] 34) := ⟨_, rfl⟩
  have hB0 : Below w.heap.size w Wb := by rw [hWb]; exact ((Below.refl _ _).alloc (Nat.le_refl _) _).alloc (by simp) _
  have hRb : RowAt Wb w.heap.size #[.string num, .string lab, .slice MA ms.length mc, .slice PA ts.length pc, .bool blk, .bool mrk, .int .i64 fol, .string lnk, .int .i64 lps] 34 := by
    have h0 := RowAt.fresh w #[.string num, .string lab, .slice MA ms.length mc, .slice PA ts.length pc, .bool blk, .bool mrk, .int .i64 fol, .string lnk, .int .i64 lps] 34
    rw [hWb]; exact h0.below ((Below.refl _ _).alloc (Nat.le_refl _) _) h0.lt
  have hRz : RowAt Wb (w.heap.size + 1) #[.string ⟨#[]⟩, .string ⟨#[]⟩, .slice none 0 0, .slice none 0 0, .bool false, .bool false, .int .i64 0, .string ⟨#[]⟩, .int .i64 0] 34 := by
    have h0 := RowAt.fresh (w.alloc (.cells #[.string num, .string lab, .slice MA ms.length mc, .slice PA ts.length pc, .bool blk, .bool mrk, .int .i64 fol, .string lnk, .int .i64 lps] 34)) #[.string ⟨#[]⟩, .string ⟨#[]⟩, .slice none 0 0, .slice none 0 0, .bool false, .bool false, .int .i64 0, .string ⟨#[]⟩, .int .i64 0] 34
    rw [World.size_alloc] at h0
    rw [hWb]; exact h0
  have HCk := Lib.hid (ncue_any num lab MA ms.length mc PA ts.length pc blk mrk fol lnk lps ms ts Wb ⟨hm1.below hB0, ht1.below hB0⟩ hok hs1 hs2 hc (by omega))
  have HM := Lib.hid (hm1.below hB0)
  have HT := Lib.hid (ht1.below hB0)
  have HWb := Lib.hid hWb
  have HB0 := Lib.hid hB0
  have HRb := Lib.hid hRb
  have HRz := Lib.hid hRz
  have hmm : ∀ w, (Instr.makeMap 70 none).run Tryz.prog w = .ok (.map (some w.heap.size)) (w.alloc (.map #[] 0)) := fun w => run_makeMap _ w
  have c0 := hRb.cell (j := 0) (u := .string num) rfl
  have c1 := hRb.cell (j := 1) (u := .string lab) rfl
  have c2 := hRb.cell (j := 2) (u := .slice MA ms.length mc) rfl
  have c3 := hRb.cell (j := 3) (u := .slice PA ts.length pc) rfl
  have c4 := hRb.cell (j := 4) (u := .bool blk) rfl
  have c5 := hRb.cell (j := 5) (u := .bool mrk) rfl
  have c6 := hRb.cell (j := 6) (u := .int .i64 fol) rfl
  have c7 := hRb.cell (j := 7) (u := .string lnk) rfl
  have c8 := hRb.cell (j := 8) (u := .int .i64 lps) rfl
  clear hx hm1 ht1 hok hs1 hs2 hc hWb hB0 hRb hRz
  go_enter Tryz.func9, Tryz.ntmps9
  go_wp2_with fail
  rw [← HWb.out]
  go_step3
  go_wp2_with fail
  clear c0 c1 c2 c3 c4 c5 c6 c7 c8
  refine HCk.out.mono ?_
  rintro e W1 ⟨rfl, hb⟩
  have hR1 := HRb.out.below hb HRb.out.lt
  have HRb1 := Lib.hid hR1
  have HRz1 := Lib.hid (HRz.out.below hb HRz.out.lt)
  have HM1 := Lib.hid (HM.out.below hb)
  have HT1 := Lib.hid (HT.out.below hb)
  have HB1 := Lib.hid (HB0.out.trans (hb.mono HB0.out.size))
  obtain ⟨V0, hV0⟩ : ∃ V0, V0 = W1.alloc (.cells #[.string num, .string lab, .slice MA ms.length mc, .slice none 0 0, .bool blk, .bool mrk, .int .i64 fol, .string lnk, .int .i64 lps] 69) := ⟨_, rfl⟩
  obtain ⟨V, hV⟩ : ∃ V, V = V0.alloc (.map #[] 0) := ⟨_, rfl⟩
  have hb0 : Below W1.heap.size W1 V0 := by rw [hV0]; exact (Below.refl _ _).alloc (Nat.le_refl _) _
  have hb1 : Below V0.heap.size V0 V := by rw [hV]; exact (Below.refl _ _).alloc (Nat.le_refl _) _
  have hzV : V0.heap.size = W1.heap.size + 1 := by rw [hV0]; simp
  have hRd : RowAt V0 W1.heap.size #[.string num, .string lab, .slice MA ms.length mc, .slice none 0 0, .bool blk, .bool mrk, .int .i64 fol, .string lnk, .int .i64 lps] 69 := by rw [hV0]; exact RowAt.fresh W1 _ _
  have HP0 := Lib.hid (show PkR W1 num lab MA ms.length mc blk mrk fol lnk lps 0 V from ⟨none, 0, [], [], hRd.below hb1 hRd.lt, World.ownsRow_nil _ _ _ _, Nat.le_refl _, fun h => absurd h (Nat.lt_irrefl _), by rw [hV, ← hzV]; exact MapAt.made ikP V0, fun p hp => (by cases hp), hb0.trans (hb1.mono hb0.size)⟩)
  have hwz : w.heap.size < W1.heap.size := hR1.lt
  have q3 := (hR1.below (hb0.trans (hb1.mono hb0.size)) hR1.lt).cell (j := 3) (u := .slice PA ts.length pc) rfl
  have HV := Lib.hid (show V = (W1.alloc (.cells #[.string num, .string lab, .slice MA ms.length mc, .slice none 0 0, .bool blk, .bool mrk, .int .i64 fol, .string lnk, .int .i64 lps] 69)).alloc (.map #[] 0) by rw [hV, hV0])
  rw [hV, hV0] at q3
  have c0 := hR1.cell (j := 0) (u := .string num) rfl
  have c1 := hR1.cell (j := 1) (u := .string lab) rfl
  have c2 := hR1.cell (j := 2) (u := .slice MA ms.length mc) rfl
  have c3 := hR1.cell (j := 3) (u := .slice PA ts.length pc) rfl
  have c4 := hR1.cell (j := 4) (u := .bool blk) rfl
  have c5 := hR1.cell (j := 5) (u := .bool mrk) rfl
  have c6 := hR1.cell (j := 6) (u := .int .i64 fol) rfl
  have c7 := hR1.cell (j := 7) (u := .string lnk) rfl
  have c8 := hR1.cell (j := 8) (u := .int .i64 lps) rfl
  clear hR1 hb hV0 hV hb0 hb1 hzV hRd
  go_wp2_with fail
  go_step3
  go_wp2_with fail
  rw [← HV.out]
  clear q3 c0 c1 c2 c3 c4 c5 c6 c7 c8
  go_loopw [24] (fun iv wr => ∃ i : Nat, i ≤ ts.length ∧ iv = .int .i64 i ∧ PkR W1 num lab MA ms.length mc blk mrk fol lnk lps i wr) (fun iv _ => ts.length - (intOf iv).toNat)
  case atStart => exact ⟨0, Nat.zero_le _, rfl, HP0.out⟩
  case round =>
    obtain ⟨i, hi, rfl, hP⟩ := hrel
    by_cases hlt : i < ts.length
    · have hBr : Below W1.heap.size W1 wr := by obtain ⟨_, _, _, _, _, _, _, _, _, _, h7⟩ := hP; exact h7
      obtain ⟨b, o, rfl, hbl, hcell⟩ := tm_at HT1.out (by omega)
      obtain ⟨q0, q1, q2, q3, q4, q5⟩ := hcell i hlt
      generalize ts[i] = tm at *
      obtain ⟨up, dn, po, co, be, de⟩ := tm
      dsimp only at q0 q1 q2 q3 q4 q5
      have p0 := (hBr.cell (p := ⟨b, o + i * 6, none⟩) hbl).trans q0
      have p1 := (hBr.cell (p := ⟨b, o + i * 6 + 1, none⟩) hbl).trans q1
      have p2 := (hBr.cell (p := ⟨b, o + i * 6 + 2, none⟩) hbl).trans q2
      have p3 := (hBr.cell (p := ⟨b, o + i * 6 + 3, none⟩) hbl).trans q3
      have p4 := (hBr.cell (p := ⟨b, o + i * 6 + 4, none⟩) hbl).trans q4
      have p5 := (hBr.cell (p := ⟨b, o + i * 6 + 5, none⟩) hbl).trans q5
      have i0 : (0 : Int) ≤ (i : Int) := by omega
      have i1 : (i : Int) < (ts.length : Int) := by omega
      have v0 : IntKind.i64.wrap ((i : Int) + 1) = (i : Int) + 1 := IntWalk.i64_in _ (by omega)
      have hbw : b < wr.heap.size := Nat.lt_of_lt_of_le hbl hBr.size
      obtain ⟨W2, hW2⟩ : ∃ W2, W2 = wr.alloc (.cells #[.int .i64 up, .int .i64 dn, .int .i64 po, .int .i64 co, .int .i64 be, .int .i64 de] 26) := ⟨_, rfl⟩
      have hb2 : Below wr.heap.size wr W2 := by rw [hW2]; exact (Below.refl _ _).alloc (Nat.le_refl _) _
      have hR2 : RowAt W2 wr.heap.size #[.int .i64 up, .int .i64 dn, .int .i64 po, .int .i64 co, .int .i64 be, .int .i64 de] 26 := by rw [hW2]; exact RowAt.fresh wr _ _
      have hRx := (HRb1.out.below hBr HRb1.out.lt).below hb2 (Nat.lt_of_lt_of_le HRb1.out.lt hBr.size)
      have c2 := hRx.cell (j := 2) (u := .slice MA ms.length mc) rfl
      rw [hW2] at c2
      have HR2 := Lib.hid hR2
      have HP2 := Lib.hid (hP.below hb2)
      have HW2 := Lib.hid hW2
      have HBs := Lib.hid hBr.size
      clear hcell q0 q1 q2 q3 q4 q5 hW2 hb2 hR2 hP hRx
      go_wp2_with fail
      rw [← HW2.out]
      clear c2 p0 p1 p2 p3 p4 p5
      go_loopw [32] (fun jv w6 => ∃ j : Nat, j ≤ ms.length ∧ jv = .int .i64 j ∧ PkR W1 num lab MA ms.length mc blk mrk fol lnk lps i w6 ∧ RowAt w6 wr.heap.size #[.int .i64 up, .int .i64 dn, .int .i64 po, .int .i64 co, .int .i64 be, .int .i64 de] 26) (fun jv _ => ms.length - (intOf jv).toNat)
      case atStart => exact ⟨0, Nat.zero_le _, rfl, HP2.out, HR2.out⟩
      case round =>
        rename World => w6
        obtain ⟨j, hj, rfl, hP6, hR6⟩ := hrel
        have hB6 : Below W1.heap.size W1 w6 := by obtain ⟨_, _, _, _, _, _, _, _, _, _, h7⟩ := hP6; exact h7
        by_cases hlt2 : j < ms.length
        · obtain ⟨b3, o3, rfl, hbl3, hcell3⟩ := mv_at HM1.out (by omega)
          obtain ⟨q0, q1, q2, q3, q4⟩ := hcell3 j hlt2
          generalize ms[j] = m at *
          obtain ⟨ch, atr, pa, le, pt⟩ := m
          dsimp only at q0 q1 q2 q3 q4
          have p0 := (hB6.cell (p := ⟨b3, o3 + j * 5, none⟩) hbl3).trans q0
          have p1 := (hB6.cell (p := ⟨b3, o3 + j * 5 + 1, none⟩) hbl3).trans q1
          have p2 := (hB6.cell (p := ⟨b3, o3 + j * 5 + 2, none⟩) hbl3).trans q2
          have p3 := (hB6.cell (p := ⟨b3, o3 + j * 5 + 3, none⟩) hbl3).trans q3
          have p4 := (hB6.cell (p := ⟨b3, o3 + j * 5 + 4, none⟩) hbl3).trans q4
          have i2 : (0 : Int) ≤ (j : Int) := by omega
          have i3 : (j : Int) < (ms.length : Int) := by omega
          have v1 : IntKind.i64.wrap ((j : Int) + 1) = (j : Int) + 1 := IntWalk.i64_in _ (by omega)
          have hbw3 : b3 < w6.heap.size := Nat.lt_of_lt_of_le hbl3 hB6.size
          obtain ⟨W7, hW7⟩ : ∃ W7, W7 = w6.alloc (.cells #[.int .i64 ch, .int .i64 atr, .int .i64 pa, .int .i64 le, .int .i64 pt] 43) := ⟨_, rfl⟩
          have hb7 : Below w6.heap.size w6 W7 := by rw [hW7]; exact (Below.refl _ _).alloc (Nat.le_refl _) _
          have HP7 := Lib.hid (hP6.below hb7)
          have HR7 := Lib.hid (hR6.below hb7 hR6.lt)
          have HW7 := Lib.hid hW7
          clear hcell3 q0 q1 q2 q3 q4 hW7 hb7 hP6 hR6
          by_cases hf : i = 0 ∨ pt = (i : Int) + 1
          · obtain ⟨PA2, pc2, T, L, hRd, hown, hTi, hT0, hMp, hLk, hBd⟩ := HP7.out
            have HLk := Lib.hid hLk
            have HN := Lib.hid (show lookL (mpL L) ((i : Int) + 1) = none by
              unfold lookL
              rw [mpL_none _ _ _ (fun p hp => by have := hLk p hp; omega)]
              rfl)
            clear hLk
            by_cases h0 : i = 0
            · have e0 : ((i : Int) == 0) = true := by simpa using h0
              clear hf h0
              have l3 := hRd.cell (j := 3) (u := .slice PA2 T.length pc2) rfl
              have d0 := HR7.out.cell (j := 0) (u := .int .i64 up) rfl
              have d1 := HR7.out.cell (j := 1) (u := .int .i64 dn) rfl
              have d2 := HR7.out.cell (j := 2) (u := .int .i64 po) rfl
              have d3 := HR7.out.cell (j := 3) (u := .int .i64 co) rfl
              have d4 := HR7.out.cell (j := 4) (u := .int .i64 be) rfl
              have d5 := HR7.out.cell (j := 5) (u := .int .i64 de) rfl
              rw [HW7.out] at l3 d0 d1 d2 d3 d4 d5 hRd hown hMp hBd
              have hsz := hBd.size
              have hTn : T.length ≤ 4 := by omega
              go_wp2_with (first | ((at_builtin; refine wpList_push rfl _ _ _ rfl W1.heap.size _ _ 6 48 Tryz.underlying32 infoTm rfl (by omega) _ T.length (shTm.vs T) rfl hown [.int .i64 up, .int .i64 dn, .int .i64 po, .int .i64 co, .int .i64 be, .int .i64 de] _ _ _ rfl (by first | rfl | simp) rfl (tmq_one _ _ _ _ _ _) (by unfold maxLen; omega) (by omega) (by first | omega | (simp; omega) | simp) ?_; intro g cap w1 hown1 hg1); have hRd1 := rowq_own hRd hown (by decide) hg1; have hM1 := map_ownq hMp hown hg1; have hBx := below_push hBd (Nat.le_refl _) hown hg1; have fr3 := hRd1.fr 3; have r3 := hRd1.cell (j := 3) (u := .slice PA2 T.length pc2) rfl; have hRd2 := hRd1.set 3 (.slice (some ⟨g, 0, none⟩) (T.length + 1) cap); have z3 := hRd2.cell (j := 3) (u := .slice (some ⟨g, 0, none⟩) (T.length + 1) cap) rfl; have HM2 := Lib.hid (hM1.far 3 (.slice (some ⟨g, 0, none⟩) (T.length + 1) cap) (show W1.heap.size ≠ W1.heap.size + 1 by omega)); have HO2 := Lib.hid (own_setq hown1 hRd1 (by decide) 3 (.slice (some ⟨g, 0, none⟩) (T.length + 1) cap)); have HB2 := Lib.hid (hBx.setCell (p := ⟨W1.heap.size, 3, none⟩) (Nat.le_refl _) (.slice (some ⟨g, 0, none⟩) (T.length + 1) cap)); have HRd2 := Lib.hid hRd2; clear hRd1 hM1 hBx hRd2 hown1 hg1) | (at_mapUpdate; refine wpList_putL _ rfl _ _ _ _ rfl _ _ Tryz.underlying70 ikP (KeyTy.int Tryz.underlying3) (W1.heap.size + 1) (mpL L) ((i : Int) + 1) (.int .i64 ((T.length : Int) + 1)) rfl rfl rfl HM2.out HN.out ?_; intro w9 hm9 hg9; have HR9 := Lib.hid (show RowAt w9 W1.heap.size _ 69 from (hg9.block W1.heap.size HRd2.out.lt (fun e => by injection e with e; omega)).trans HRd2.out); have HO9 := Lib.hid (own_mapq HM2.out HO2.out hg9); have HB9 := Lib.hid (HB2.out.grown hg9 HB2.out.size (fun q e => by cases e; omega)); have HM9 := Lib.hid hm9; clear hm9 hg9))
              go_roundw
              case rel =>
                refine ⟨i + 1, hlt, by go_num, some ⟨g, 0, none⟩, cap, T ++ [⟨up, dn, po, co, be, de⟩], L ++ [((i : Int) + 1, ((T.length : Int) + 1))], by rw [List.length_append]; exact HR9.out, by rw [List.length_append, Sh.vs_append]; exact HO9.out, by rw [List.length_append]; simp; omega, fun _ => by rw [List.length_append]; simp, by rw [← mpL_push]; exact HM9.out, fun p hp => ?_, HB9.out⟩
                rcases List.mem_append.1 hp with hp | hp
                · have := HLk.out p hp; omega
                · rw [List.mem_singleton] at hp
                  rw [hp]
                  exact Int.le_of_eq (by simp)
              case measure => simp [intOf]; omega
            · have e0 : ((i : Int) == 0) = false := by simpa using (show ¬ (i : Int) = 0 by omega)
              have e1 : (pt == (i : Int) + 1) = true := by simpa using (hf.resolve_left h0)
              clear hf h0
              have l3 := hRd.cell (j := 3) (u := .slice PA2 T.length pc2) rfl
              have d0 := HR7.out.cell (j := 0) (u := .int .i64 up) rfl
              have d1 := HR7.out.cell (j := 1) (u := .int .i64 dn) rfl
              have d2 := HR7.out.cell (j := 2) (u := .int .i64 po) rfl
              have d3 := HR7.out.cell (j := 3) (u := .int .i64 co) rfl
              have d4 := HR7.out.cell (j := 4) (u := .int .i64 be) rfl
              have d5 := HR7.out.cell (j := 5) (u := .int .i64 de) rfl
              rw [HW7.out] at l3 d0 d1 d2 d3 d4 d5 hRd hown hMp hBd
              have hsz := hBd.size
              have hTn : T.length ≤ 4 := by omega
              go_wp2_with (first | ((at_builtin; refine wpList_push rfl _ _ _ rfl W1.heap.size _ _ 6 48 Tryz.underlying32 infoTm rfl (by omega) _ T.length (shTm.vs T) rfl hown [.int .i64 up, .int .i64 dn, .int .i64 po, .int .i64 co, .int .i64 be, .int .i64 de] _ _ _ rfl (by first | rfl | simp) rfl (tmq_one _ _ _ _ _ _) (by unfold maxLen; omega) (by omega) (by first | omega | (simp; omega) | simp) ?_; intro g cap w1 hown1 hg1); have hRd1 := rowq_own hRd hown (by decide) hg1; have hM1 := map_ownq hMp hown hg1; have hBx := below_push hBd (Nat.le_refl _) hown hg1; have fr3 := hRd1.fr 3; have r3 := hRd1.cell (j := 3) (u := .slice PA2 T.length pc2) rfl; have hRd2 := hRd1.set 3 (.slice (some ⟨g, 0, none⟩) (T.length + 1) cap); have z3 := hRd2.cell (j := 3) (u := .slice (some ⟨g, 0, none⟩) (T.length + 1) cap) rfl; have HM2 := Lib.hid (hM1.far 3 (.slice (some ⟨g, 0, none⟩) (T.length + 1) cap) (show W1.heap.size ≠ W1.heap.size + 1 by omega)); have HO2 := Lib.hid (own_setq hown1 hRd1 (by decide) 3 (.slice (some ⟨g, 0, none⟩) (T.length + 1) cap)); have HB2 := Lib.hid (hBx.setCell (p := ⟨W1.heap.size, 3, none⟩) (Nat.le_refl _) (.slice (some ⟨g, 0, none⟩) (T.length + 1) cap)); have HRd2 := Lib.hid hRd2; clear hRd1 hM1 hBx hRd2 hown1 hg1) | (at_mapUpdate; refine wpList_putL _ rfl _ _ _ _ rfl _ _ Tryz.underlying70 ikP (KeyTy.int Tryz.underlying3) (W1.heap.size + 1) (mpL L) ((i : Int) + 1) (.int .i64 ((T.length : Int) + 1)) rfl rfl rfl HM2.out HN.out ?_; intro w9 hm9 hg9; have HR9 := Lib.hid (show RowAt w9 W1.heap.size _ 69 from (hg9.block W1.heap.size HRd2.out.lt (fun e => by injection e with e; omega)).trans HRd2.out); have HO9 := Lib.hid (own_mapq HM2.out HO2.out hg9); have HB9 := Lib.hid (HB2.out.grown hg9 HB2.out.size (fun q e => by cases e; omega)); have HM9 := Lib.hid hm9; clear hm9 hg9))
              go_roundw
              case rel =>
                refine ⟨i + 1, hlt, by go_num, some ⟨g, 0, none⟩, cap, T ++ [⟨up, dn, po, co, be, de⟩], L ++ [((i : Int) + 1, ((T.length : Int) + 1))], by rw [List.length_append]; exact HR9.out, by rw [List.length_append, Sh.vs_append]; exact HO9.out, by rw [List.length_append]; simp; omega, fun _ => by rw [List.length_append]; simp, by rw [← mpL_push]; exact HM9.out, fun p hp => ?_, HB9.out⟩
                rcases List.mem_append.1 hp with hp | hp
                · have := HLk.out p hp; omega
                · rw [List.mem_singleton] at hp
                  rw [hp]
                  exact Int.le_of_eq (by simp)
              case measure => simp [intOf]; omega
          · have g0 : ¬ i = 0 := fun h => hf (.inl h)
            have g1 : ¬ pt = (i : Int) + 1 := fun h => hf (.inr h)
            have e0 : ((i : Int) == 0) = false := by simpa using (show ¬ (i : Int) = 0 by omega)
            have e1 : (pt == (i : Int) + 1) = false := by simpa using g1
            clear hf
            go_wp2_with fail
            rw [← HW7.out]
            go_roundw
            case rel => exact ⟨j + 1, hlt2, by go_num, HP7.out, HR7.out⟩
            case measure => simp [intOf]; omega
        · obtain rfl : j = ms.length := by omega
          obtain ⟨PA2, pc2, T, L, hRd, hown, hTi, hT0, hMp, hLk, hBd⟩ := hP6
          by_cases h0 : i = 0
          · have e0 : ((i : Int) == 0) = true := by simpa using h0
            have HLk := Lib.hid hLk
            have HT1 := Lib.hid (show T.length ≤ 0 by omega)
            have d0 := hR6.cell (j := 0) (u := .int .i64 up) rfl
            have d1 := hR6.cell (j := 1) (u := .int .i64 dn) rfl
            have d2 := hR6.cell (j := 2) (u := .int .i64 po) rfl
            have d3 := hR6.cell (j := 3) (u := .int .i64 co) rfl
            have d4 := hR6.cell (j := 4) (u := .int .i64 be) rfl
            have d5 := hR6.cell (j := 5) (u := .int .i64 de) rfl
            have l3 := hRd.cell (j := 3) (u := .slice PA2 T.length pc2) rfl
            have hsz := hBd.size
            have hTn : T.length ≤ 4 := by omega
            have H0 := Lib.hid h0
            clear hLk h0 hR6
            go_wp2_with (first | ((at_builtin; refine wpList_push rfl _ _ _ rfl W1.heap.size _ _ 6 48 Tryz.underlying32 infoTm rfl (by omega) _ T.length (shTm.vs T) rfl hown [.int .i64 up, .int .i64 dn, .int .i64 po, .int .i64 co, .int .i64 be, .int .i64 de] _ _ _ rfl (by first | rfl | simp) rfl (tmq_one _ _ _ _ _ _) (by unfold maxLen; omega) (by omega) (by first | omega | (simp; omega) | simp) ?_; intro g cap w1 hown1 hg1); have hRd1 := rowq_own hRd hown (by decide) hg1; have HM1 := Lib.hid ((map_ownq hMp hown hg1).far 3 (.slice (some ⟨g, 0, none⟩) (T.length + 1) cap) (show W1.heap.size ≠ W1.heap.size + 1 by omega)); have hBx := below_push hBd (Nat.le_refl _) hown hg1; have fr3 := hRd1.fr 3; have r3 := hRd1.cell (j := 3) (u := .slice PA2 T.length pc2) rfl; have HO2 := Lib.hid (own_setq hown1 hRd1 (by decide) 3 (.slice (some ⟨g, 0, none⟩) (T.length + 1) cap)); have HB2 := Lib.hid (hBx.setCell (p := ⟨W1.heap.size, 3, none⟩) (Nat.le_refl _) (.slice (some ⟨g, 0, none⟩) (T.length + 1) cap)); have HRd2 := Lib.hid (hRd1.set 3 (.slice (some ⟨g, 0, none⟩) (T.length + 1) cap)); clear hRd1 hBx hown1 hg1) | fail)
            go_roundw
            case rel =>
              refine ⟨i + 1, hlt, by go_num, some ⟨g, 0, none⟩, cap, T ++ [⟨up, dn, po, co, be, de⟩], L, by rw [List.length_append]; exact HRd2.out, by rw [List.length_append, Sh.vs_append]; exact HO2.out, by rw [List.length_append]; have := HT1.out; simp; omega, fun _ => by rw [List.length_append]; simp, HM1.out, fun p hp => ?_, HB2.out⟩
              have := HLk.out p hp; omega
            case measure => simp [intOf]; omega
          · have e0 : ((i : Int) == 0) = false := by simpa using (show ¬ (i : Int) = 0 by omega)
            have HPn := Lib.hid (show PkR W1 num lab MA ms.length mc blk mrk fol lnk lps (i + 1) w6 from ⟨PA2, pc2, T, L, hRd, hown, by omega, fun _ => hT0 (by omega), hMp, fun p hp => by have := hLk p hp; omega, hBd⟩)
            clear hLk hR6 hRd hown hMp hBd hT0
            go_wp2_with fail
            go_roundw
            case rel => exact ⟨i + 1, hlt, by go_num, HPn.out⟩
            case measure => simp [intOf]; omega
    · obtain rfl : i = ts.length := by omega
      obtain ⟨PA2, pc2, T, L, hRd, hown, hTi, hT0, hMp, hLk, hBd⟩ := hP
      have hTp : 0 < T.length := hT0 (by omega)
      have hRx := HRb1.out.below hBd HRb1.out.lt
      have c2 := hRx.cell (j := 2) (u := .slice MA ms.length mc) rfl
      have HCl := Lib.hid (clone_mvs MA ms.length mc ms wr (HM1.out.below hBd) (by omega))
      have HRd := Lib.hid hRd
      have HMp := Lib.hid hMp
      have HBd := Lib.hid hBd
      clear hRd hown hMp hLk hBd hRx hT0
      go_wp2_with fail
      refine HCl.out.mono ?_
      rintro e w2 ⟨v2, rfl, hown2, hb2⟩
      obtain ⟨A2, c2', rfl⟩ := own_form hown2
      have hRd2 := HRd.out.below hb2 HRd.out.lt
      have fr2 := hRd2.fr 2
      have r2 := hRd2.cell (j := 2) (u := .slice MA ms.length mc) rfl
      have hRd3 := hRd2.set 2 (.slice A2 ms.length c2')
      have z2 := hRd3.cell (j := 2) (u := .slice A2 ms.length c2') rfl
      have hB3 := (HBd.out.trans (hb2.mono HBd.out.size)).setCell (p := ⟨W1.heap.size, 2, none⟩) (Nat.le_refl _) (.slice A2 ms.length c2')
      have hM3 := (HMp.out.below2 hb2).far 2 (.slice A2 ms.length c2') (show W1.heap.size ≠ W1.heap.size + 1 by omega)
      have hMlt := HMp.out.lt
      obtain ⟨g, hG⟩ : ∃ g, 0 < ms.length → A2 = some ⟨g, 0, none⟩ ∧ Cells (w2.setCell ⟨W1.heap.size, 2, none⟩ (.slice A2 ms.length c2')) g (shMv.vs ms) ∧ W1.heap.size + 2 ≤ g := by
        rcases hown2.2 with ⟨hv, -⟩ | ⟨g, cap, cur, hv, hg, -, -⟩
        · injection hv with e1 e2 e3
          exact ⟨0, fun h => by omega⟩
        · injection hv with e1 e2 e3
          subst e1
          exact ⟨g, fun _ => ⟨rfl, (cells_ownG hown2).far 2 _ (by omega), by omega⟩⟩
      have HI := Lib.hid (show ∃ ms' : List Mv, ms'.length = ms.length ∧ ms'.map Mv.q = ms.map Mv.q ∧ RowAt (w2.setCell ⟨W1.heap.size, 2, none⟩ (.slice A2 ms.length c2')) W1.heap.size #[.string num, .string lab, .slice A2 ms.length c2', .slice PA2 T.length pc2, .bool blk, .bool mrk, .int .i64 fol, .string lnk, .int .i64 lps] 69 ∧ MapAt ikP (w2.setCell ⟨W1.heap.size, 2, none⟩ (.slice A2 ms.length c2')) (W1.heap.size + 1) (mpL L) ∧ (0 < ms.length → Cells (w2.setCell ⟨W1.heap.size, 2, none⟩ (.slice A2 ms.length c2')) g (shMv.vs ms')) ∧ Below W1.heap.size W1 (w2.setCell ⟨W1.heap.size, 2, none⟩ (.slice A2 ms.length c2')) from ⟨ms, rfl, rfl, hRd3, hM3, fun h => (hG h).2.1, hB3⟩)
      have HG := Lib.hid (show 0 < ms.length → A2 = some ⟨g, 0, none⟩ ∧ W1.heap.size + 2 ≤ g from fun h => ⟨(hG h).1, (hG h).2.2⟩)
      clear hRd2 hRd3 hB3 hM3 hG hown2 hb2 hMlt
      go_wp2_with fail
      clear fr2 r2 z2 c2
      go_loopw [74] (fun jv w6 => ∃ (j : Nat) (ms' : List Mv), j ≤ ms.length ∧ jv = .int .i64 j ∧ ms'.length = ms.length ∧ ms'.map Mv.q = ms.map Mv.q ∧ RowAt w6 W1.heap.size #[.string num, .string lab, .slice A2 ms.length c2', .slice PA2 T.length pc2, .bool blk, .bool mrk, .int .i64 fol, .string lnk, .int .i64 lps] 69 ∧ MapAt ikP w6 (W1.heap.size + 1) (mpL L) ∧ (0 < ms.length → Cells w6 g (shMv.vs ms')) ∧ Below W1.heap.size W1 w6) (fun jv _ => ms.length - (intOf jv).toNat)
      case atStart =>
        obtain ⟨ms', h1, h2, h3, h4, h5, h6⟩ := HI.out
        exact ⟨0, ms', Nat.zero_le _, rfl, h1, h2, h3, h4, h5, h6⟩
      case round =>
        rename World => w6
        obtain ⟨j, ms', hj, rfl, hml, hmq, hRd, hMp, hCl, hBd⟩ := hrel
        by_cases hlt2 : j < ms.length
        · obtain ⟨rfl, hgz⟩ := HG.out (by omega)
          have hC := hCl (by omega)
          have hj2 : j < ms'.length := by omega
          have hv4 := (shMv.vs_at ms' j hj2 4 (by decide))
          have hst := vs_setM ms' j hj2
          have hq2 : ∀ n : Int, (ms'.set j ⟨ms'[j].ch, ms'[j].atr, ms'[j].pa, ms'[j].le, n⟩).map Mv.q = ms'.map Mv.q := fun n => by
            rw [List.map_set]
            refine List.ext_getElem (by simp) fun k h1 h2 => ?_
            rw [List.getElem_set]
            by_cases hk : j = k
            · subst hk; simp [Mv.q]
            · simp [hk]
          obtain ⟨x, hx⟩ : ∃ x, x = ms'[j] := ⟨_, rfl⟩
          rw [← hx] at hv4 hst hq2
          clear hx
          obtain ⟨ch, atr, pa, le, pt⟩ := x
          dsimp only at hst hq2
          have hv5 : (shMv.vs ms')[j * 5 + 4]? = some (.int .i64 pt) := hv4
          have hCd : Cells w6.drew g (shMv.vs ms') := hC.below (Below.refl _ _).drew hC.1
          have hRdd : RowAt w6.drew W1.heap.size #[.string num, .string lab, .slice (some ⟨g, 0, none⟩) ms.length c2', .slice PA2 T.length pc2, .bool blk, .bool mrk, .int .i64 fol, .string lnk, .int .i64 lps] 69 := hRd.below (Below.refl _ _).drew hRd.lt
          have p4 := hCd.at_ hv5
          have f4 := hCd.fr hv5
          have z2 := hRdd.cell (j := 2) (u := .slice (some ⟨g, 0, none⟩) ms.length c2') rfl
          have i0 : (0 : Int) ≤ (j : Int) := by omega
          have i1 : (j : Int) < (ms.length : Int) := by omega
          have v0 : IntKind.i64.wrap ((j : Int) + 1) = (j : Int) + 1 := IntWalk.i64_in _ (by omega)
          have hMd : MapAt ikP w6.drew (W1.heap.size + 1) (mpL L) := hMp.below2 (Below.refl _ _).drew
          obtain ⟨n, hn⟩ := mpL_look L pt
          have hlk : (Instr.lookup 70 (.map (some (W1.heap.size + 1))) (.int .i64 pt) false).run Tryz.prog w6.drew = .ok (.int .i64 n) w6.drew := by
            have h := run_lookL (P := Tryz.prog) Tryz.underlying70 (KeyTy.int Tryz.underlying3) hMd pt (z := .int .i64 0) (by kernel_rfl) false
            rw [hn] at h
            exact h
          have hB6 : Below W1.heap.size W1 w6.drew := hBd.drew
          have HC6 := Lib.hid hCd
          have HR6 := Lib.hid hRdd
          have HM6 := Lib.hid hMd
          have HB6 := Lib.hid hB6
          have HSt := Lib.hid (hst n)
          have HQ2 := Lib.hid (hq2 n)
          have HMl := Lib.hid (And.intro hml hmq)
          have HGz := Lib.hid hgz
          clear hn hv4 hv5 hst hq2 hC hCl hCd hRdd hMd hRd hMp hBd hB6 hml hmq
          go_wp2_with fail
          go_still_tail 13, (by kernel_rfl)
          change wpList _ _ _ _ _ w6.drew
          clear hlk
          generalize w6.drew = w7 at *
          go_wp2_with fail
          go_roundw
          case rel =>
            refine ⟨j + 1, ms'.set j ⟨ch, atr, pa, le, n⟩, hlt2, by go_num, by rw [List.length_set]; exact HMl.out.1, by rw [HQ2.out]; exact HMl.out.2, HR6.out.far _ _ (by have := HGz.out; omega), HM6.out.far _ _ (by have := HGz.out; omega), fun _ => ?_, HB6.out.setCell (p := ⟨g, _, none⟩) (by have := HGz.out; show W1.heap.size ≤ g; omega) _⟩
            rw [← HSt.out]
            exact HC6.out.set (j * 5 + 4) _ (by rw [shMv.vs_length]; show j * 5 + 4 < ms'.length * 5; have := HMl.out.1; omega)
          case measure => simp [intOf]; omega
        · obtain rfl : j = ms.length := by omega
          have hRz := HRz1.out.below hBd HRz1.out.lt
          have f0 := hRz.fr 0
          have r0 := hRz.cell (j := 0) (u := .string ⟨#[]⟩) rfl
          have f1 := hRz.fr 1
          have r1 := hRz.cell (j := 1) (u := .string ⟨#[]⟩) rfl
          have f2 := hRz.fr 2
          have r2 := hRz.cell (j := 2) (u := .slice none 0 0) rfl
          have f3 := hRz.fr 3
          have r3 := hRz.cell (j := 3) (u := .slice none 0 0) rfl
          have f4 := hRz.fr 4
          have r4 := hRz.cell (j := 4) (u := .bool false) rfl
          have f5 := hRz.fr 5
          have r5 := hRz.cell (j := 5) (u := .bool false) rfl
          have f6 := hRz.fr 6
          have r6 := hRz.cell (j := 6) (u := .int .i64 0) rfl
          have f7 := hRz.fr 7
          have r7 := hRz.cell (j := 7) (u := .string ⟨#[]⟩) rfl
          have f8 := hRz.fr 8
          have r8 := hRz.cell (j := 8) (u := .int .i64 0) rfl
          have k0 := hRd.cell (j := 0) (u := .string num) rfl
          have k1 := hRd.cell (j := 1) (u := .string lab) rfl
          have k2 := hRd.cell (j := 2) (u := .slice A2 ms.length c2') rfl
          have k3 := hRd.cell (j := 3) (u := .slice PA2 T.length pc2) rfl
          have k4 := hRd.cell (j := 4) (u := .bool blk) rfl
          have k5 := hRd.cell (j := 5) (u := .bool mrk) rfl
          have k6 := hRd.cell (j := 6) (u := .int .i64 fol) rfl
          have k7 := hRd.cell (j := 7) (u := .string lnk) rfl
          have k8 := hRd.cell (j := 8) (u := .int .i64 lps) rfl
          have HRz := Lib.hid hRz
          have HBd := Lib.hid hBd
          have HFin := Lib.hid (show shMv.In w6 A2 ms.length ms' from by
            rcases Nat.eq_zero_or_pos ms.length with h0 | h0
            · have hnil : ms' = [] := List.eq_nil_of_length_eq_zero (by omega)
              rw [hnil, h0]
              exact Sh.In.nil _ _
            · obtain ⟨rfl, -⟩ := HG.out h0
              rw [← hml]
              exact In_of_cells (hCl h0))
          have hwz2 : w.heap.size + 1 ≠ W1.heap.size := by have := HRz1.out.lt; omega
          clear hRz hRd hMp hCl hBd
          go_wp2_with fail
          (try rw [Exit.noGoto_ret])
          clear k0 k1 k2 k3 k4 k5 k6 k7 k8 r0 r1 r2 r3 r4 r5 r6 r7 r8
          have hA := HB1.out.trans (HBd.out.mono HB1.out.size)
          have hwzz := HRz1.out.lt
          have hr0 : RowAt _ (w.heap.size + 1) #[.string num, .string ⟨#[]⟩, .slice none 0 0, .slice none 0 0, .bool false, .bool false, .int .i64 0, .string ⟨#[]⟩, .int .i64 0] 34 := HRz.out.set 0 (.string num)
          have hr1 : RowAt _ (w.heap.size + 1) #[.string num, .string lab, .slice none 0 0, .slice none 0 0, .bool false, .bool false, .int .i64 0, .string ⟨#[]⟩, .int .i64 0] 34 := hr0.set 1 (.string lab)
          have hr2 : RowAt _ (w.heap.size + 1) #[.string num, .string lab, .slice A2 ms.length c2', .slice none 0 0, .bool false, .bool false, .int .i64 0, .string ⟨#[]⟩, .int .i64 0] 34 := hr1.set 2 (.slice A2 ms.length c2')
          have hr3 : RowAt _ (w.heap.size + 1) #[.string num, .string lab, .slice A2 ms.length c2', .slice PA2 T.length pc2, .bool false, .bool false, .int .i64 0, .string ⟨#[]⟩, .int .i64 0] 34 := hr2.set 3 (.slice PA2 T.length pc2)
          have hr4 : RowAt _ (w.heap.size + 1) #[.string num, .string lab, .slice A2 ms.length c2', .slice PA2 T.length pc2, .bool blk, .bool false, .int .i64 0, .string ⟨#[]⟩, .int .i64 0] 34 := hr3.set 4 (.bool blk)
          have hr5 : RowAt _ (w.heap.size + 1) #[.string num, .string lab, .slice A2 ms.length c2', .slice PA2 T.length pc2, .bool blk, .bool mrk, .int .i64 0, .string ⟨#[]⟩, .int .i64 0] 34 := hr4.set 5 (.bool mrk)
          have hr6 : RowAt _ (w.heap.size + 1) #[.string num, .string lab, .slice A2 ms.length c2', .slice PA2 T.length pc2, .bool blk, .bool mrk, .int .i64 fol, .string ⟨#[]⟩, .int .i64 0] 34 := hr5.set 6 (.int .i64 fol)
          have hr7 : RowAt _ (w.heap.size + 1) #[.string num, .string lab, .slice A2 ms.length c2', .slice PA2 T.length pc2, .bool blk, .bool mrk, .int .i64 fol, .string lnk, .int .i64 0] 34 := hr6.set 7 (.string lnk)
          have hr : RowAt _ (w.heap.size + 1) #[.string num, .string lab, .slice A2 ms.length c2', .slice PA2 T.length pc2, .bool blk, .bool mrk, .int .i64 fol, .string lnk, .int .i64 lps] 34 := hr7.set 8 (.int .i64 lps)
          have hbF := (((((((((hA).setCell (p := ⟨w.heap.size + 1, 0, none⟩) (Nat.le_succ _) (.string num)).setCell (p := ⟨w.heap.size + 1, 1, none⟩) (Nat.le_succ _) (.string lab)).setCell (p := ⟨w.heap.size + 1, 2, none⟩) (Nat.le_succ _) (.slice A2 ms.length c2')).setCell (p := ⟨w.heap.size + 1, 3, none⟩) (Nat.le_succ _) (.slice PA2 T.length pc2)).setCell (p := ⟨w.heap.size + 1, 4, none⟩) (Nat.le_succ _) (.bool blk)).setCell (p := ⟨w.heap.size + 1, 5, none⟩) (Nat.le_succ _) (.bool mrk)).setCell (p := ⟨w.heap.size + 1, 6, none⟩) (Nat.le_succ _) (.int .i64 fol)).setCell (p := ⟨w.heap.size + 1, 7, none⟩) (Nat.le_succ _) (.string lnk)).setCell (p := ⟨w.heap.size + 1, 8, none⟩) (Nat.le_succ _) (.int .i64 lps)
          have hIn : shMv.In ((((((((((w6).setCell ⟨w.heap.size + 1, 0, none⟩ (.string num)).setCell ⟨w.heap.size + 1, 1, none⟩ (.string lab)).setCell ⟨w.heap.size + 1, 2, none⟩ (.slice A2 ms.length c2')).setCell ⟨w.heap.size + 1, 3, none⟩ (.slice PA2 T.length pc2)).setCell ⟨w.heap.size + 1, 4, none⟩ (.bool blk)).setCell ⟨w.heap.size + 1, 5, none⟩ (.bool mrk)).setCell ⟨w.heap.size + 1, 6, none⟩ (.int .i64 fol)).setCell ⟨w.heap.size + 1, 7, none⟩ (.string lnk)).setCell ⟨w.heap.size + 1, 8, none⟩ (.int .i64 lps)) A2 ms.length ms' := by
            rcases Nat.eq_zero_or_pos ms.length with h0 | h0
            · have hnil : ms' = [] := List.eq_nil_of_length_eq_zero (by omega)
              rw [hnil, h0]
              exact Sh.In.nil _ _
            · have hq := HFin.out
              obtain ⟨rfl, hgz⟩ := HG.out h0
              have hne : w.heap.size + 1 ≠ g := by omega
              exact (((((((((hq).far1 hne 0 (.string num)).far1 hne 1 (.string lab)).far1 hne 2 (.slice (some ⟨g, 0, none⟩) ms.length c2')).far1 hne 3 (.slice PA2 T.length pc2)).far1 hne 4 (.bool blk)).far1 hne 5 (.bool mrk)).far1 hne 6 (.int .i64 fol)).far1 hne 7 (.string lnk)).far1 hne 8 (.int .i64 lps)
          generalize (((((((((w6).setCell ⟨w.heap.size + 1, 0, none⟩ (.string num)).setCell ⟨w.heap.size + 1, 1, none⟩ (.string lab)).setCell ⟨w.heap.size + 1, 2, none⟩ (.slice A2 ms.length c2')).setCell ⟨w.heap.size + 1, 3, none⟩ (.slice PA2 T.length pc2)).setCell ⟨w.heap.size + 1, 4, none⟩ (.bool blk)).setCell ⟨w.heap.size + 1, 5, none⟩ (.bool mrk)).setCell ⟨w.heap.size + 1, 6, none⟩ (.int .i64 fol)).setCell ⟨w.heap.size + 1, 7, none⟩ (.string lnk)).setCell ⟨w.heap.size + 1, 8, none⟩ (.int .i64 lps) = W9 at hr hbF hIn ⊢
          have k0 := hr.cell (j := 0) (u := .string num) rfl
          have k1 := hr.cell (j := 1) (u := .string lab) rfl
          have k2 := hr.cell (j := 2) (u := .slice A2 ms.length c2') rfl
          have k3 := hr.cell (j := 3) (u := .slice PA2 T.length pc2) rfl
          have k4 := hr.cell (j := 4) (u := .bool blk) rfl
          have k5 := hr.cell (j := 5) (u := .bool mrk) rfl
          have k6 := hr.cell (j := 6) (u := .int .i64 fol) rfl
          have k7 := hr.cell (j := 7) (u := .string lnk) rfl
          have k8 := hr.cell (j := 8) (u := .int .i64 lps) rfl
          refine bodyPost_ret (v := .tuple #[.agg #[.string num, .string lab, .slice A2 ms.length c2', .slice PA2 T.length pc2, .bool blk, .bool mrk, .int .i64 fol, .string lnk, .int .i64 lps], .int .i64 0]) ?_ rfl ⟨A2, c2', PA2, T.length, pc2, ms', rfl, hIn, hmq, hTp, by omega, hbF⟩
          rw [results_cell_tmp rfl]
          go_simp
end Go.Proofs.YtbhkfemebionnaaGreatDoor
