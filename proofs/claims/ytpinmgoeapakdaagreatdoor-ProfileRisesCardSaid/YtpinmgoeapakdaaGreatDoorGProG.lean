/- Lemmas and contracts of functions, joined for the claim: PrPlain3, PrLevel, PrRLevel, PrRLevel2, PrCap, PrLevel2, COpen3. -/
import Derived.Test.YtpinmgoeapakdaaGreatDoorGNest
import Derived.Test.YtpinmgoeapakdaaGreatDoorGProE
import Derived.Test.YtpinmgoeapakdaaGreatDoorGProA
import Derived.Test.YtpinmgoeapakdaaGreatDoorGProB
import Derived.Test.YtpinmgoeapakdaaGreatDoorGCurveB
import Derived.Test.YtpinmgoeapakdaaGreatDoorGProC
namespace Go.Proofs.YtpinmgoeapakdaaGreatDoor
open Go.ChangeShapes Go.WideShapes Go.ChangeAt Go.RowKit Go.Deep

section
variable {HH : Type} {enc : TypeId × Value → HH} {w : World} {base : Nat} {spare : Nat → Bool} {held : Bool}
theorem curve_cells2 {fuel : Nat} {cs : List Value} {x : DataW HH × List MemPlace} (h : DataW.trod enc Tryz.prog w base spare held fuel 69 cs = some x) : ∃ g : Hd, cs = shH.cs g ∧ (∃ l, shP.In w g.A g.n l) ∧ g.n ≤ maxLen ∧ g.n ≤ g.c ∧ g.c ≤ maxLen := by
  have hcap := fun {A : Option Addr} {n c : Nat} {fuel : Nat} {x : DataW HH × List MemPlace} (h : DataW.trod enc Tryz.prog w base spare held fuel 69 [.slice A n c] = some x) => open_cap Tryz.underlying69 h
  rcases open_slice Tryz.underlying69 h with ⟨h1, _⟩ | ⟨a, len, cap, m, k, D, Pl, hcs, _⟩
  · subst h1
    obtain ⟨l, hl, _, hn, _⟩ := open_rows shP Tryz.underlying69 (by kernel_rfl : Tryz.prog.cellsOf 106 = shP.z) (by decide) (0, 0) _ (fun _ _ _ h => point_cells h) h
    exact ⟨⟨_, _, _⟩, rfl, ⟨l, hl⟩, hn, hcap h⟩
  · subst hcs
    obtain ⟨l, hl, _, hn, _⟩ := open_rows shP Tryz.underlying69 (by kernel_rfl : Tryz.prog.cellsOf 106 = shP.z) (by decide) (0, 0) _ (fun _ _ _ h => point_cells h) h
    exact ⟨⟨_, _, _⟩, rfl, ⟨l, hl⟩, hn, hcap h⟩
end
end Go.Proofs.YtpinmgoeapakdaaGreatDoor

namespace Go.Proofs.YtpinmgoeapakdaaGreatDoor
open Go.RowKit

theorem own_cap2 {w : World} {base sz k n c : Nat} {e : TypeId} {A : Option Addr} {xs : List Value} (h : w.ownsRow base e sz (.slice A n c) k xs) : n ≤ c ∧ c ≤ 9223372036854775807 := by
  obtain ⟨_, ⟨h1, _⟩ | ⟨g, cap, cur, h1, _, _, h2, h3, _⟩⟩ := h
  · cases h1; exact ⟨Nat.le_refl _, Nat.zero_le _⟩
  · cases h1; exact ⟨h2, h3⟩
set_option maxHeartbeats 2000000 in
theorem ppoints_cap (f : FC) (A' : Option Addr) (n' c' : Nat) (H : List Hd) (L : List (List PT)) (w : World) (hl : InN w A' n' H L) (h0 : 0 ≤ f.cu) (h1 : f.cu ≤ n') (hn : n' ≤ 9223372036854775807) (hcp : ∀ h ∈ H, h.n ≤ h.c ∧ h.c ≤ 9223372036854775807) :
    Calls Tryz.prog 46 #[f.val, .slice A' n' c'] w fun e w' => ∃ A2 n2 c2, e = .returned (.slice A2 n2 c2) ∧ shP.In w' A2 n2 (pointsC f.cu L) ∧ (n2 ≤ c2 ∧ c2 ≤ 9223372036854775807) ∧ Below w.heap.size w w' := by
  obtain ⟨at_, bits, co, fi, cu, ho, lo, hi, sn, A, n, c⟩ := f
  replace h0 : 0 ≤ cu := h0
  replace h1 : cu ≤ n' := h1
  show Calls Tryz.prog 46 #[.agg #[.int .i64 at_, .int .i64 bits, .int .i64 co, .int .i64 fi, .int .i64 cu, .int .i64 ho, .int .i64 lo, .int .i64 hi, .bool sn, .slice A n c], .slice A' n' c'] w fun e w' => ∃ A2 n2 c2, e = .returned (.slice A2 n2 c2) ∧ shP.In w' A2 n2 (pointsC cu L) ∧ (n2 ≤ c2 ∧ c2 ≤ 9223372036854775807) ∧ Below w.heap.size w w'
  obtain ⟨W, hW⟩ : ∃ W, W = w.alloc (.cells #[.int .i64 at_, .int .i64 bits, .int .i64 co, .int .i64 fi, .int .i64 cu, .int .i64 ho, .int .i64 lo, .int .i64 hi, .bool sn, .slice A n c] 24) := ⟨_, rfl⟩
  obtain ⟨hB0, hK⟩ := fbox at_ bits co fi cu ho lo hi sn A n c w W hW
  have HK := Lib.hid hK
  have HW := Lib.hid hW
  have HB0 := Lib.hid hB0
  have hB := Below.refl W.heap.size W
  obtain ⟨c0, c1, c2, c3, c4, c5, c6, c7, c8, c9⟩ := hK W hB
  clear hW hB0 hK
  have HSt := Lib.hid (fun w => cstraight_any w)
  by_cases hc : cu = 0
  · subst hc
    have hp : pointsC 0 L = straightC := by unfold pointsC; rw [if_pos rfl]
    rw [hp]
    clear hl h0 h1 hcp
    go_enter Tryz.func46, Tryz.ntmps46
    go_wp2_with fail
    rw [← HW.out]
    refine (HSt.out _).mono ?_
    rintro e wk ⟨r, rfl, A2, c2, rfl, ho, hb⟩
    replace hB := hB.trans (hb.mono hB.size)
    clear hb
    go_wp2_with fail
    go_ret
    exact ⟨_, _, _, rfl, Sh.In.of_own ho rfl, own_cap2 ho, HB0.out.trans (hB.mono HB0.out.size)⟩
  · obtain ⟨j, rfl⟩ : ∃ j : Nat, cu = ((j : Nat) : Int) + 1 := ⟨(cu - 1).toNat, by omega⟩
    have hj : j < n' := by omega
    obtain ⟨rfl, _⟩ := id hl.1
    obtain ⟨b, o, rfl, hbl, hcell⟩ := hd_at hl.1 (by omega)
    have hjL : j < L.length := by rw [← hl.2.1]; exact hj
    have hp : pointsC ((j : Int) + 1) L = L[j] := by
      unfold pointsC
      rw [if_neg hc, show ((j : Int) + 1 - 1).toNat = j by omega, getD_of hjL]
    rw [hp]
    have hq := (hl.2.2 j hj hjL).below HB0.out
    have p0 := (HB0.out.cell (p := ⟨b, o + j, none⟩) hbl).trans (hcell j hj)
    have hbw : b < W.heap.size := Nat.lt_of_lt_of_le hbl HB0.out.size
    have pw := hcell j hj
    have HCp := Lib.hid (hcp _ (List.getElem_mem hj))
    have HQ := Lib.hid hq
    clear hl hcell hq hcp
    generalize H[j].A = a2 at *
    generalize H[j].n = n2 at *
    generalize H[j].c = d2 at *
    have g0 : ((j : Int) + 1 == 0) = false := by rw [beq_eq_false_iff_ne]; omega
    have w1 : IntKind.i64.wrap ((j : Int) + 1 - 1) = (j : Int) := by rw [Int.add_sub_cancel]; exact IntWalk.i64_in _ (by omega)
    have i0 : (0 : Int) ≤ (j : Int) := by omega
    have i1 : (j : Int) < (H.length : Int) := by omega
    clear h0 h1 hc hp
    go_enter Tryz.func46, Tryz.ntmps46
    go_wp2_with fail
    rw [← HW.out]
    try go_wp2_with fail
    go_ret
    exact ⟨_, _, _, rfl, HQ.out, HCp.out, HB0.out.trans (hB.mono HB0.out.size)⟩
end Go.Proofs.YtpinmgoeapakdaaGreatDoor

namespace Go.Proofs.YtpinmgoeapakdaaGreatDoor
open Go.RowKit

theorem plainN_at : ∀ {l : List PT} {v : Int} {j : Nat} (hj : j + 1 < l.length), (∀ t (ht : t < l.length), 0 < t → t < j + 1 → l[t].1 < v) → v ≤ l[j + 1].1 →
    plainN l v = ((l[j]'(by omega)).2 * (l[j + 1].1 - (l[j]'(by omega)).1) + (l[j + 1].2 - (l[j]'(by omega)).2) * (v - (l[j]'(by omega)).1), l[j + 1].1 - (l[j]'(by omega)).1)
  | [], _, _, hj, _, _ => absurd hj (by simp)
  | [_], _, _, hj, _, _ => absurd hj (by simp)
  | a :: b :: t, v, 0, hj, hl, hv => by
    rw [plainN_two, if_pos (by simpa using hv)]; rfl
  | a :: b :: t, v, j + 1, hj, hl, hv => by
    have h1 : b.1 < v := hl 1 (by simp) (by omega) (by omega)
    rw [plainN_two, if_neg (by omega)]
    exact plainN_at (l := b :: t) (j := j) (by simpa using hj) (fun i hi h0 h1 => hl (i + 1) (by simpa using hi) (by omega) (by omega)) (by simpa using hv)

def segP (lo hi raw : Int) (a b : PT) (k : Nat) : Bool :=
  (decide (a.2 ≤ b.2) && decide (raw ≤ rawQ lo hi (segN a b k) (b.1 - a.1))) || (!decide (a.2 ≤ b.2) && decide (rawQ lo hi (segN a b k) (b.1 - a.1) ≤ raw))
theorem segP_mono {lo hi raw : Int} {a b : PT} (hD : lo ≤ hi) (hw : 0 < b.1 - a.1) {k l : Nat} (hk : k ≤ l) (h : segP lo hi raw a b k = true) : segP lo hi raw a b l = true := by
  unfold segP at *
  by_cases hr : a.2 ≤ b.2
  · have := rawQ_mono (lo := lo) (hi := hi) hw hD (segN_up (a := a) (b := b) (k := (k : Int)) (l := (l : Int)) hr (by omega))
    simp [hr] at h ⊢
    omega
  · have := rawQ_mono (lo := lo) (hi := hi) hw hD (segN_down (a := a) (b := b) (k := (k : Int)) (l := (l : Int)) (by omega) (by omega))
    simp [hr] at h ⊢
    omega
theorem first_of (p : Nat → Bool) (n : Nat) (h : ∀ {k l : Nat}, k ≤ l → p k = true → p l = true) : ∃ m, m ≤ n ∧ (∀ t, t < m → p t = false) ∧ (∀ t, m ≤ t → t < n → p t = true) := by
  rcases lvlN_cases p n with ⟨-, h1⟩ | ⟨k, hk, -, h1, h2⟩
  · exact ⟨n, Nat.le_refl _, h1, fun t h2 h3 => absurd h3 (by omega)⟩
  · exact ⟨k, by omega, h2, fun t h3 _ => h h3 h1⟩
theorem seg_low {lo hi raw : Int} {a b : PT} {t : Nat} (h : segP lo hi raw a b t = false) : rawQ lo hi (segN a b t) (b.1 - a.1) ≠ raw := by
  intro e
  unfold segP at h
  rw [e] at h
  by_cases hr : a.2 ≤ b.2 <;> simp [hr] at h
theorem seg_miss {lo hi raw : Int} {a b : PT} (hD : lo ≤ hi) (hw : 0 < b.1 - a.1) {m n : Nat} (h1 : ∀ t, t < m → segP lo hi raw a b t = false) (h2 : ∀ t, m ≤ t → t < n → segP lo hi raw a b t = true)
    (hne : m < n → rawQ lo hi (segN a b m) (b.1 - a.1) ≠ raw) : ∀ t, t < n → rawQ lo hi (segN a b t) (b.1 - a.1) ≠ raw := by
  intro t ht e
  rcases Nat.lt_or_ge t m with h | h
  · exact seg_low (h1 t h) e
  · have hm := h2 m (Nat.le_refl _) (by omega)
    have hne := hne (by omega)
    unfold segP at hm
    by_cases hr : a.2 ≤ b.2
    · have := rawQ_mono (lo := lo) (hi := hi) hw hD (segN_up (a := a) (b := b) (k := (m : Int)) (l := (t : Int)) hr (by omega))
      simp [hr] at hm
      omega
    · have := rawQ_mono (lo := lo) (hi := hi) hw hD (segN_down (a := a) (b := b) (k := (m : Int)) (l := (t : Int)) (by omega) (by omega))
      simp [hr] at hm
      omega

def LvlInv (lo hi raw : Int) (c : List PT) (i : Nat) : Prop := ∀ u : Nat, ((u : Int) < (c.getD i (0, 0)).1 ∨ ((u : Int) = (c.getD i (0, 0)).1 ∧ 0 < i)) → rawI lo hi c u ≠ raw
theorem lvl_start {lo hi raw : Int} {c : List PT} (hc : OkC c) : LvlInv lo hi raw c 0 := by
  intro u hu
  have h2 := hc.two
  have := hc.first_at
  rw [getD_of (show 0 < c.length by omega)] at hu
  omega
theorem seg_at {lo hi : Int} {c : List PT} (hc : OkC c) {i : Nat} (hi' : i + 1 < c.length) {k : Nat} (h1 : (k : Int) ≤ c[i + 1].1 - (c[i]'(by omega)).1) :
    rawQ lo hi (segN (c[i]'(by omega)) c[i + 1] k) (c[i + 1].1 - (c[i]'(by omega)).1) = rawI lo hi c ((c[i]'(by omega)).1 + k) := seg_raw hc hi' (by omega) h1
theorem lvl_step {lo hi raw : Int} {c : List PT} (hc : OkC c) {i : Nat} (hi' : i + 1 < c.length) (hD : lo ≤ hi) {m n : Nat} (hn : (n : Int) = c[i + 1].1 - (c[i]'(by omega)).1 + 1)
    (h1 : ∀ t, t < m → segP lo hi raw (c[i]'(by omega)) c[i + 1] t = false) (h2 : ∀ t, m ≤ t → t < n → segP lo hi raw (c[i]'(by omega)) c[i + 1] t = true)
    (hne : m < n → rawQ lo hi (segN (c[i]'(by omega)) c[i + 1] m) (c[i + 1].1 - (c[i]'(by omega)).1) ≠ raw) (h : LvlInv lo hi raw c i) : LvlInv lo hi raw c (i + 1) := by
  have hs := up_step hi' hc.up
  obtain ⟨⟨a0, a1⟩, _⟩ := up_lev (i := i) (by omega) hc.up
  have hm := seg_miss hD (by omega) h1 h2 hne
  intro u hu
  rw [getD_of hi'] at hu
  unfold LvlInv at h
  rw [getD_of (show i < c.length by omega)] at h
  by_cases hl : (u : Int) < (c[i]'(by omega)).1
  · exact h u (.inl hl)
  · have := hm (u - (c[i]'(by omega)).1.toNat) (by omega)
    rw [seg_at hc hi' (by omega)] at this
    have e : (c[i]'(by omega)).1 + ((u - (c[i]'(by omega)).1.toNat : Nat) : Int) = (u : Int) := by omega
    rw [e] at this
    exact this
theorem lvl_hit {lo hi raw : Int} {c : List PT} (hc : OkC c) {i : Nat} (hi' : i + 1 < c.length) {m n : Nat} (hn : (n : Int) = c[i + 1].1 - (c[i]'(by omega)).1 + 1) (hm : m < n)
    (h1 : ∀ t, t < m → segP lo hi raw (c[i]'(by omega)) c[i + 1] t = false) (he : rawQ lo hi (segN (c[i]'(by omega)) c[i + 1] m) (c[i + 1].1 - (c[i]'(by omega)).1) = raw) (h : LvlInv lo hi raw c i) :
    lvlOf lo hi c raw = (c[i]'(by omega)).1 + m := by
  obtain ⟨⟨a0, a1⟩, _⟩ := up_lev (i := i) (by omega) hc.up
  obtain ⟨⟨b0, b1⟩, _⟩ := up_lev hi' hc.up
  unfold LvlInv at h
  rw [getD_of (show i < c.length by omega)] at h
  have e : lvlOf lo hi c raw = (((c[i]'(by omega)).1.toNat + m : Nat) : Int) := by
    unfold lvlOf
    refine lvlN_some (by omega) (fun u hu => decide_eq_false ?_) (decide_eq_true ?_)
    · by_cases hl : (u : Int) < (c[i]'(by omega)).1
      · exact h u (.inl hl)
      · have := seg_low (h1 (u - (c[i]'(by omega)).1.toNat) (by omega))
        rw [seg_at hc hi' (by omega)] at this
        have e : (c[i]'(by omega)).1 + ((u - (c[i]'(by omega)).1.toNat : Nat) : Int) = (u : Int) := by omega
        rw [e] at this
        exact this
    · rw [seg_at hc hi' (by omega)] at he
      rw [show (((c[i]'(by omega)).1.toNat + m : Nat) : Int) = (c[i]'(by omega)).1 + (m : Int) by omega]
      exact he
  rw [e]
  omega
theorem lvl_end {lo hi raw : Int} {c : List PT} (hc : OkC c) {i : Nat} (hi' : i + 1 = c.length) (h : LvlInv lo hi raw c i) : lvlOf lo hi c raw = -1 := by
  have h2 := hc.two
  have hl := hc.last_at
  unfold LvlInv at h
  rw [getD_of (show i < c.length by omega)] at h
  unfold lvlOf
  refine lvlN_none fun u hu => decide_eq_false (h u ?_)
  have e : c[i].1 = 65535 := by
    have : c.length - 1 = i := by omega
    simp only [this] at hl
    exact hl
  omega
theorem lv_out {f : Fea} {L : List (List PT)} {raw : Int} (ha : aloneE f L = 0) (h : raw < f.lo ∨ f.hi < raw) : levelE f L raw = 2 ∧ levelV f L raw = 0 := by
  have e : levelE f L raw = 2 := by unfold levelE; rw [if_neg (fun h => h ha), if_pos h]
  refine ⟨e, ?_⟩
  unfold levelV
  rw [e]; rfl
theorem lv_hit {f : Fea} {L : List (List PT)} {raw k : Int} (ha : aloneE f L = 0) (h : ¬ (raw < f.lo ∨ f.hi < raw)) (hk : lvlOf f.lo f.hi (pointsC f.cu L) raw = k) (k0 : 0 ≤ k) : levelE f L raw = 0 ∧ levelV f L raw = k := by
  have e : levelE f L raw = 0 := by unfold levelE; rw [if_neg (fun h => h ha), if_neg h, hk, if_neg (by omega)]
  refine ⟨e, ?_⟩
  unfold levelV
  rw [e, hk]; rfl
theorem lv_miss {f : Fea} {L : List (List PT)} {raw : Int} (ha : aloneE f L = 0) (h : ¬ (raw < f.lo ∨ f.hi < raw)) (hk : lvlOf f.lo f.hi (pointsC f.cu L) raw = -1) : levelE f L raw = 12 ∧ levelV f L raw = 0 := by
  have e : levelE f L raw = 12 := by unfold levelE; rw [if_neg (fun h => h ha), if_neg h, hk]; rfl
  refine ⟨e, ?_⟩
  unfold levelV
  rw [e]; rfl
theorem segN_bd {a b : PT} {k w : Int} (hw : w = b.1 - a.1) (ha : isLev a.2) (hb : isLev b.2) (k0 : 0 ≤ k) (k1 : k ≤ w) : 0 ≤ segN a b k ∧ segN a b k ≤ 65535 * w := by
  unfold isLev at ha hb
  unfold segN
  rw [← hw]
  have e1 : (b.2 - a.2) * w = b.2 * w - a.2 * w := Int.sub_mul ..
  have p1 : 0 ≤ a.2 * w := Int.mul_nonneg ha.1 (by omega)
  have p2 : 0 ≤ b.2 * w := Int.mul_nonneg hb.1 (by omega)
  have p3 : a.2 * w ≤ 65535 * w := Int.mul_le_mul_of_nonneg_right ha.2 (by omega)
  have p4 : b.2 * w ≤ 65535 * w := Int.mul_le_mul_of_nonneg_right hb.2 (by omega)
  by_cases h : a.2 ≤ b.2
  · have q1 : 0 ≤ (b.2 - a.2) * k := Int.mul_nonneg (by omega) k0
    have q2 : (b.2 - a.2) * k ≤ (b.2 - a.2) * w := Int.mul_le_mul_of_nonneg_left k1 (by omega)
    omega
  · have e2 : ∀ x : Int, (b.2 - a.2) * x = -((a.2 - b.2) * x) := fun x => by rw [← Int.neg_mul]; congr 1; omega
    have q1 : 0 ≤ (a.2 - b.2) * k := Int.mul_nonneg (by omega) k0
    have q2 : (a.2 - b.2) * k ≤ (a.2 - b.2) * w := Int.mul_le_mul_of_nonneg_left k1 (by omega)
    rw [e2] at e1
    rw [e2]
    omega
theorem plainN_bd {c : List PT} (hc : OkC c) {v : Int} (h0 : 0 ≤ v) (h1 : v ≤ 65535) : 0 < (plainN c v).2 ∧ (plainN c v).2 ≤ 65535 ∧ 0 ≤ (plainN c v).1 ∧ (plainN c v).1 ≤ 65535 * (plainN c v).2 := by
  have h2 := hc.two
  have hl := hc.last_at
  obtain ⟨j, hj, g1, g2⟩ : ∃ j, ∃ hj : j + 1 < c.length, (∀ t (ht : t < c.length), 0 < t → t < j + 1 → c[t].1 < v) ∧ v ≤ c[j + 1].1 := by
    rcases lvlN_cases (fun t => decide (v ≤ (c.getD (t + 1) (0, 0)).1)) (c.length - 1) with ⟨-, h⟩ | ⟨k, hk, -, h3, h4⟩
    · have := of_decide_eq_false (h (c.length - 2) (by omega))
      rw [show c.length - 2 + 1 = c.length - 1 by omega, getD_of (by omega), hl] at this
      exact absurd h1 this
    · have h3 := of_decide_eq_true h3
      rw [getD_of (by omega)] at h3
      refine ⟨k, by omega, fun t ht t0 tk => ?_, h3⟩
      have := of_decide_eq_false (h4 (t - 1) (by omega))
      simp only [show t - 1 + 1 = t by omega] at this
      rw [getD_of ht] at this
      omega
  have hs := up_step (i := j) hj hc.up
  obtain ⟨⟨a0, a1⟩, ha⟩ := up_lev (i := j) (by omega) hc.up
  obtain ⟨⟨b0, b1⟩, hb⟩ := up_lev (i := j + 1) hj hc.up
  have hlow : (c[j]'(by omega)).1 ≤ v := by
    rcases Nat.eq_zero_or_pos j with e | e
    · have := hc.first_at
      subst e
      omega
    · have := g1 j (by omega) e (by omega)
      omega
  rw [plainN_at hj g1 g2]
  have := segN_bd (a := c[j]'(by omega)) (b := c[j + 1]) (k := v - (c[j]'(by omega)).1) rfl ha hb (by omega) (by omega)
  unfold segN at this
  exact ⟨by show 0 < c[j + 1].1 - (c[j]'(by omega)).1; omega, by show c[j + 1].1 - (c[j]'(by omega)).1 ≤ 65535; omega, this.1, this.2⟩
end Go.Proofs.YtpinmgoeapakdaaGreatDoor

namespace Go.Proofs.YtpinmgoeapakdaaGreatDoor
open Go.RowKit

theorem mul_bd {x y X Y : Int} (hx : -X ≤ x ∧ x ≤ X) (hy : -Y ≤ y ∧ y ≤ Y) : -(X * Y) ≤ x * y ∧ x * y ≤ X * Y := by
  have h1 : x.natAbs ≤ X.natAbs := by omega
  have h2 : y.natAbs ≤ Y.natAbs := by omega
  have h3 := Nat.mul_le_mul h1 h2
  rw [← Int.natAbs_mul, ← Int.natAbs_mul] at h3
  have h4 : 0 ≤ X * Y := Int.mul_nonneg (by omega) (by omega)
  omega
set_option maxRecDepth 100000 in
set_option maxHeartbeats 4000000 in
theorem plev1q_any (Pa Pw Pb Pf : Nat) (ay wd by_ lo hi k : Int) (w : World) (a0 : isLev ay) (b0 : isLev by_) (w0 : 0 < wd ∧ wd ≤ 65535) (k0 : 0 ≤ k ∧ k ≤ wd) (l0 : 0 ≤ lo ∧ lo ≤ hi ∧ hi ≤ 65535)
    (ca : w.cell? ⟨Pa, 1, none⟩ = some (.int .i64 ay)) (cw : w.cell? ⟨Pw, 0, none⟩ = some (.int .i64 wd)) (cb : w.cell? ⟨Pb, 1, none⟩ = some (.int .i64 by_)) (cl : w.cell? ⟨Pf, 6, none⟩ = some (.int .i64 lo)) (ch : w.cell? ⟨Pf, 7, none⟩ = some (.int .i64 hi)) :
    Calls Tryz.prog 62 #[.int .i64 k, .pointer (some ⟨Pa, 0, none⟩), .pointer (some ⟨Pw, 0, none⟩), .pointer (some ⟨Pb, 0, none⟩), .pointer (some ⟨Pf, 0, none⟩)] w fun e w' => e = .returned (.int .i64 (rawQ lo hi (ay * wd + (by_ - ay) * k) wd)) ∧ ∃ m, w' = w.drewN m := by
  have hn := segN_bd (a := (0, ay)) (b := (wd, by_)) (k := k) (w := wd) (by show wd = wd - 0; omega) a0 b0 k0.1 k0.2
  have hn : 0 ≤ ay * wd + (by_ - ay) * k ∧ ay * wd + (by_ - ay) * k ≤ 65535 * wd := by
    unfold segN at hn
    simpa using hn
  unfold isLev at a0 b0
  obtain ⟨p1, p2⟩ := mul_bd (x := ay) (y := wd) (X := 65535) (Y := 65535) (by omega) (by omega)
  obtain ⟨p3, p4⟩ := mul_bd (x := by_ - ay) (y := k) (X := 65535) (Y := 65535) (by omega) (by omega)
  have w1 : IntKind.i64.wrap (ay * wd) = ay * wd := IntWalk.i64_in _ (by omega)
  have w2 : IntKind.i64.wrap (by_ - ay) = by_ - ay := IntWalk.i64_in _ (by omega)
  have w3 : IntKind.i64.wrap ((by_ - ay) * k) = (by_ - ay) * k := IntWalk.i64_in _ (by omega)
  have w4 : IntKind.i64.wrap (ay * wd + (by_ - ay) * k) = ay * wd + (by_ - ay) * k := IntWalk.i64_in _ (by omega)
  generalize hN : ay * wd + (by_ - ay) * k = N at *
  obtain ⟨p5, p6⟩ := mul_bd (x := 2 * (hi - lo)) (y := N) (X := 131070) (Y := 4294836225) (by omega) (by omega)
  have w5 : IntKind.i64.wrap (hi - lo) = hi - lo := IntWalk.i64_in _ (by omega)
  have w6 : IntKind.i64.wrap (2 * (hi - lo)) = 2 * (hi - lo) := IntWalk.i64_in _ (by omega)
  have w7 : IntKind.i64.wrap (2 * (hi - lo) * N) = 2 * (hi - lo) * N := IntWalk.i64_in _ (by omega)
  have w8 : IntKind.i64.wrap (wd * 65535) = wd * 65535 := IntWalk.i64_in _ (by omega)
  have w9 : IntKind.i64.wrap (2 * wd) = 2 * wd := IntWalk.i64_in _ (by omega)
  have w10 : IntKind.i64.wrap (2 * wd * 65535) = 2 * wd * 65535 := IntWalk.i64_in _ (by omega)
  have hm : 0 ≤ 2 * (hi - lo) * N := Int.mul_nonneg (by omega) hn.1
  have w11 : IntKind.i64.wrap (2 * (hi - lo) * N + wd * 65535) = 2 * (hi - lo) * N + wd * 65535 := IntWalk.i64_in _ (by omega)
  have hz : (2 * wd * 65535 == 0) = false := by rw [beq_eq_false_iff_ne]; omega
  generalize hM : 2 * (hi - lo) * N + wd * 65535 = M at *
  have hM0 : 0 ≤ M ∧ M ≤ 1000000000000000 := by omega
  have q1 : Int.tdiv M (2 * wd * 65535) = M / (2 * wd * 65535) := Int.tdiv_eq_ediv_of_nonneg hM0.1
  have q2 : 0 ≤ M / (2 * wd * 65535) := Int.ediv_nonneg hM0.1 (by omega)
  have q3 : M / (2 * wd * 65535) ≤ M := Int.ediv_le_self _ hM0.1
  have w12 : IntKind.i64.wrap (M / (2 * wd * 65535)) = M / (2 * wd * 65535) := IntWalk.i64_in _ (by omega)
  have w13 : IntKind.i64.wrap (lo + M / (2 * wd * 65535)) = lo + M / (2 * wd * 65535) := IntWalk.i64_in _ (by omega)
  have hR : rawQ lo hi N wd = lo + M / (2 * wd * 65535) := by unfold rawQ; rw [hM]
  rw [hR]
  have hd1 : ¬ 2 * wd * 65535 = 0 := by omega
  clear p1 p2 p3 p4 p5 p6 hm hM0 q2 q3 hR hn a0 b0 w0 k0 l0
  go_enter Tryz.func62, Tryz.ntmps62
  go_wp2_with fail
  go_quiet (fail)
  go_wp2
  go_ret
  exact ⟨rfl, _, rfl⟩
set_option maxRecDepth 100000 in
set_option maxHeartbeats 4000000 in
theorem plev2_any (P1 P2 P3 : Nat) (pa pw pb pf : Value) (r : Bool) (raw q k : Int) (w : World) (c1 : w.cell? ⟨P1, 0, none⟩ = some (.bool r)) (c2 : w.cell? ⟨P2, 0, none⟩ = some (.func (.func 62) #[] #[pa, pw, pb, pf])) (c3 : w.cell? ⟨P3, 0, none⟩ = some (.int .i64 raw))
    (h : ∀ n, Calls Tryz.prog 62 #[.int .i64 k, pa, pw, pb, pf] (w.drewN n) fun e w' => e = .returned (.int .i64 q) ∧ ∃ m, w' = (w.drewN n).drewN m) :
    Calls Tryz.prog 64 #[.int .i64 k, .pointer (some ⟨P1, 0, none⟩), .pointer (some ⟨P2, 0, none⟩), .pointer (some ⟨P3, 0, none⟩)] w fun e w' => e = .returned (.bool ((r && decide (raw ≤ q)) || (!r && decide (q ≤ raw)))) ∧ Below w.heap.size w w' := by
  have hB := Below.refl w.heap.size w
  have H := Lib.hid h
  clear h
  cases r
  · by_cases hq : q ≤ raw
    · have hd := decide_eq_true hq
      rw [hd]
      go_enter Tryz.func64, Tryz.ntmps64
      go_wp2_with fail
      go_quiet ((exact Calls.quiet_of (H.out _)))
      go_wp2
      go_ret
      exact ⟨ret_b (by simp), by (repeat (first | exact Below.refl _ _ | assumption | apply Below.drew | apply below_drewN | (refine Below.alloc ?_ (by first | omega | (simp; omega) | simp) _) | (refine Below.setCell ?_ (by first | omega | (simp; omega) | simp) _) | (refine Below.trans ?_ (Below.mono (by assumption) (by first | omega | (simp; omega) | simp)))))⟩
    · have hd := decide_eq_false hq
      rw [hd]
      go_enter Tryz.func64, Tryz.ntmps64
      go_wp2_with fail
      go_quiet ((exact Calls.quiet_of (H.out _)))
      go_wp2
      go_ret
      exact ⟨ret_b (by simp), by (repeat (first | exact Below.refl _ _ | assumption | apply Below.drew | apply below_drewN | (refine Below.alloc ?_ (by first | omega | (simp; omega) | simp) _) | (refine Below.setCell ?_ (by first | omega | (simp; omega) | simp) _) | (refine Below.trans ?_ (Below.mono (by assumption) (by first | omega | (simp; omega) | simp)))))⟩
  · by_cases hq : raw ≤ q
    · have hd := decide_eq_true hq
      rw [hd]
      go_enter Tryz.func64, Tryz.ntmps64
      go_wp2_with fail
      go_quiet ((exact Calls.quiet_of (H.out _)))
      go_wp2
      go_ret
      exact ⟨ret_b (by simp), by (repeat (first | exact Below.refl _ _ | assumption | apply Below.drew | apply below_drewN | (refine Below.alloc ?_ (by first | omega | (simp; omega) | simp) _) | (refine Below.setCell ?_ (by first | omega | (simp; omega) | simp) _) | (refine Below.trans ?_ (Below.mono (by assumption) (by first | omega | (simp; omega) | simp)))))⟩
    · have hd := decide_eq_false hq
      rw [hd]
      go_enter Tryz.func64, Tryz.ntmps64
      go_wp2_with fail
      go_quiet ((exact Calls.quiet_of (H.out _)))
      go_wp2
      go_ret
      exact ⟨ret_b (by simp), by (repeat (first | exact Below.refl _ _ | assumption | apply Below.drew | apply below_drewN | (refine Below.alloc ?_ (by first | omega | (simp; omega) | simp) _) | (refine Below.setCell ?_ (by first | omega | (simp; omega) | simp) _) | (refine Below.trans ?_ (Below.mono (by assumption) (by first | omega | (simp; omega) | simp)))))⟩
end Go.Proofs.YtpinmgoeapakdaaGreatDoor

namespace Go.Proofs.YtpinmgoeapakdaaGreatDoor
open Go.RowKit

theorem box_at {w W' : World} {vs : Array Value} {t : TypeId} {j : Nat} {u : Value} (hu : vs[j]? = some u) (h : Below (w.alloc (.cells vs t)).heap.size (w.alloc (.cells vs t)) W') : W'.cell? ⟨w.heap.size, j, none⟩ = some u :=
  (h.cell (p := ⟨w.heap.size, j, none⟩) (by simp)).trans (by rw [World.cell?_alloc_new]; exact hu)
theorem five_boxes (X Y X2 Y2 wd : Int) (F : Value) (r : Bool) (wr W : World) (tp ti tf tb : TypeId)
    (hW : W = ((((wr.alloc (.cells #[.int .i64 X, .int .i64 Y] tp)).alloc (.cells #[.int .i64 X2, .int .i64 Y2] tp)).alloc (.cells #[.int .i64 wd] ti)).alloc (.cells #[F] tf)).alloc (.cells #[.bool r] tb)) :
    Below wr.heap.size wr W ∧ W.heap.size = wr.heap.size + 5 ∧ ∀ w', Below W.heap.size W w' → w'.cell? ⟨wr.heap.size, 0, none⟩ = some (.int .i64 X) ∧ w'.cell? ⟨wr.heap.size, 1, none⟩ = some (.int .i64 Y) ∧ w'.cell? ⟨wr.heap.size + 1, 0, none⟩ = some (.int .i64 X2) ∧ w'.cell? ⟨wr.heap.size + 1, 1, none⟩ = some (.int .i64 Y2) ∧ w'.cell? ⟨wr.heap.size + 1 + 1, 0, none⟩ = some (.int .i64 wd) ∧ w'.cell? ⟨wr.heap.size + 1 + 1 + 1, 0, none⟩ = some F ∧ w'.cell? ⟨wr.heap.size + 1 + 1 + 1 + 1, 0, none⟩ = some (.bool r) := by
  obtain ⟨W1, h1⟩ : ∃ W1, W1 = wr.alloc (.cells #[.int .i64 X, .int .i64 Y] tp) := ⟨_, rfl⟩
  rw [← h1] at hW
  obtain ⟨W2, h2⟩ : ∃ W2, W2 = W1.alloc (.cells #[.int .i64 X2, .int .i64 Y2] tp) := ⟨_, rfl⟩
  rw [← h2] at hW
  obtain ⟨W3, h3⟩ : ∃ W3, W3 = W2.alloc (.cells #[.int .i64 wd] ti) := ⟨_, rfl⟩
  rw [← h3] at hW
  obtain ⟨W4, h4⟩ : ∃ W4, W4 = W3.alloc (.cells #[F] tf) := ⟨_, rfl⟩
  rw [← h4] at hW
  have s1 : W1.heap.size = wr.heap.size + 1 := by rw [h1]; simp
  have s2 : W2.heap.size = wr.heap.size + 2 := by rw [h2]; simp [s1]
  have s3 : W3.heap.size = wr.heap.size + 3 := by rw [h3]; simp [s2]
  have s4 : W4.heap.size = wr.heap.size + 4 := by rw [h4]; simp [s3]
  have s5 : W.heap.size = wr.heap.size + 5 := by rw [hW]; simp [s4]
  have b1 : Below wr.heap.size wr W1 := by rw [h1]; exact (Below.refl _ _).alloc (Nat.le_refl _) _
  have b2 : Below W1.heap.size W1 W2 := by rw [h2]; exact (Below.refl _ _).alloc (Nat.le_refl _) _
  have b3 : Below W2.heap.size W2 W3 := by rw [h3]; exact (Below.refl _ _).alloc (Nat.le_refl _) _
  have b4 : Below W3.heap.size W3 W4 := by rw [h4]; exact (Below.refl _ _).alloc (Nat.le_refl _) _
  have b5 : Below W4.heap.size W4 W := by rw [hW]; exact (Below.refl _ _).alloc (Nat.le_refl _) _
  have d4 := b5
  have d3 := b4.trans (d4.mono b4.size)
  have d2 := b3.trans (d3.mono b3.size)
  have d1 := b2.trans (d2.mono b2.size)
  have d0 := b1.trans (d1.mono b1.size)
  refine ⟨d0, s5, fun w' h => ?_⟩
  have k1 := d1.trans (h.mono d1.size)
  have k2 := d2.trans (h.mono d2.size)
  have k3 := d3.trans (h.mono d3.size)
  have k4 := d4.trans (h.mono d4.size)
  rw [h1] at k1
  rw [h2] at k2
  rw [h3] at k3
  rw [h4] at k4
  rw [hW] at h
  have e2 := fun (j : Nat) (u : Value) (hu : (#[Value.int .i64 X2, .int .i64 Y2] : Array Value)[j]? = some u) => box_at hu k2
  have e3 := fun (j : Nat) (u : Value) (hu : (#[Value.int .i64 wd] : Array Value)[j]? = some u) => box_at hu k3
  have e4 := fun (j : Nat) (u : Value) (hu : (#[F] : Array Value)[j]? = some u) => box_at hu k4
  have e5 := fun (j : Nat) (u : Value) (hu : (#[Value.bool r] : Array Value)[j]? = some u) => box_at hu h
  rw [s1] at e2
  rw [s2] at e3
  rw [s3] at e4
  rw [s4] at e5
  exact ⟨box_at rfl k1, box_at rfl k1, e2 0 _ rfl, e2 1 _ rfl, e3 0 _ rfl, e4 0 _ rfl, e5 0 _ rfl⟩
set_option maxRecDepth 100000 in
set_option maxHeartbeats 8000000 in
theorem pLevel_any (f : FC) (wl : List Slt) (A' : Option Addr) (n' c' : Nat) (H : List Hd) (L : List (List PT)) (raw : Int) (w : World) (hw : FW w f wl) (hl : InN w A' n' H L) (hm : ∀ h ∈ H, h.n ≤ 9223372036854775807) (hn : n' ≤ 9223372036854775807) (hcp : ∀ h ∈ H, h.n ≤ h.c ∧ h.c ≤ 9223372036854775807) :
    Calls Tryz.prog 25 #[f.val, .slice A' n' c', .int .i64 raw] w fun e w' => e = .returned (.tuple #[.int .i64 (levelV (f.fea wl) L raw), .int .i64 (levelE (f.fea wl) L raw)]) ∧ Below w.heap.size w w' := by
  have HAl0 := Lib.hid (fun w hw hl => palone_any f wl A' n' c' H L w hw hl hm)
  by_cases ha : aloneE (f.fea wl) L = 0
  · rw [ha] at HAl0
    obtain ⟨hA, hb, hc0, hc1, -, hl0, hl1, hl2, -⟩ := alone_ok ha
    have hL := hl.2.1
    have hLn := hl.1.1
    have HPt0 := Lib.hid (fun w hl => ppoints_cap f A' n' c' H L w hl hc0 (by have : f.cu ≤ L.length := hc1; omega) hn hcp)
    have hC := points_ok hA hc0 hc1
    have HOut := Lib.hid (fun h => lv_out (raw := raw) ha h)
    have HHit := Lib.hid (fun k h hk k0 => lv_hit (raw := raw) (k := k) ha h hk k0)
    have HMiss := Lib.hid (fun h hk => lv_miss (raw := raw) ha h hk)
    obtain ⟨at_, bits, co, fi, cu, ho, lo, hi, sn, A, n, c⟩ := f
    replace hl0 : 0 ≤ lo := hl0
    replace hl1 : lo ≤ hi := hl1
    have hl3 : hi ≤ 65535 := Int.le_trans hl2 (topV_le _)
    replace hC : OkC (pointsC cu L) := hC
    have HAl := Lib.hid (show ∀ w', FW w' ⟨at_, bits, co, fi, cu, ho, lo, hi, sn, A, n, c⟩ wl → InN w' A' n' H L → Calls Tryz.prog 43 #[.agg #[.int .i64 at_, .int .i64 bits, .int .i64 co, .int .i64 fi, .int .i64 cu, .int .i64 ho, .int .i64 lo, .int .i64 hi, .bool sn, .slice A n c], .slice A' n' c'] w' fun e w'' => e = .returned (.int .i64 0) ∧ Below w'.heap.size w' w'' from HAl0.out)
    have HPt := Lib.hid (show ∀ w', InN w' A' n' H L → Calls Tryz.prog 46 #[.agg #[.int .i64 at_, .int .i64 bits, .int .i64 co, .int .i64 fi, .int .i64 cu, .int .i64 ho, .int .i64 lo, .int .i64 hi, .bool sn, .slice A n c], .slice A' n' c'] w' fun e w'' => ∃ A2 n2 c2, e = .returned (.slice A2 n2 c2) ∧ shP.In w'' A2 n2 (pointsC cu L) ∧ (n2 ≤ c2 ∧ c2 ≤ 9223372036854775807) ∧ Below w'.heap.size w' w'' from HPt0.out)
    obtain ⟨V, hV⟩ : ∃ V, levelV (FC.fea ⟨at_, bits, co, fi, cu, ho, lo, hi, sn, A, n, c⟩ wl) L raw = V := ⟨_, rfl⟩
    obtain ⟨E, hE⟩ : ∃ E, levelE (FC.fea ⟨at_, bits, co, fi, cu, ho, lo, hi, sn, A, n, c⟩ wl) L raw = E := ⟨_, rfl⟩
    show Calls Tryz.prog 25 #[.agg #[.int .i64 at_, .int .i64 bits, .int .i64 co, .int .i64 fi, .int .i64 cu, .int .i64 ho, .int .i64 lo, .int .i64 hi, .bool sn, .slice A n c], .slice A' n' c', .int .i64 raw] w fun e w' => e = .returned (.tuple #[.int .i64 (levelV (FC.fea ⟨at_, bits, co, fi, cu, ho, lo, hi, sn, A, n, c⟩ wl) L raw), .int .i64 (levelE (FC.fea ⟨at_, bits, co, fi, cu, ho, lo, hi, sn, A, n, c⟩ wl) L raw)]) ∧ Below w.heap.size w w'
    rw [hV, hE]
    replace HOut := Lib.hid (show raw < lo ∨ hi < raw → E = 2 ∧ V = 0 from fun h => by have := HOut.out h; rw [hE, hV] at this; exact this)
    replace HHit := Lib.hid (show ∀ k, ¬ (raw < lo ∨ hi < raw) → lvlOf lo hi (pointsC cu L) raw = k → 0 ≤ k → E = 0 ∧ V = k from fun k h h1 h2 => by have := HHit.out k h h1 h2; rw [hE, hV] at this; exact this)
    replace HMiss := Lib.hid (show ¬ (raw < lo ∨ hi < raw) → lvlOf lo hi (pointsC cu L) raw = -1 → E = 12 ∧ V = 0 from fun h h1 => by have := HMiss.out h h1; rw [hE, hV] at this; exact this)
    obtain ⟨W, hW⟩ : ∃ W, W = (w.alloc (.cells #[.int .i64 at_, .int .i64 bits, .int .i64 co, .int .i64 fi, .int .i64 cu, .int .i64 ho, .int .i64 lo, .int .i64 hi, .bool sn, .slice A n c] 24)).alloc (.cells #[.int .i64 raw] 3) := ⟨_, rfl⟩
    obtain ⟨hB0, hK⟩ := fbox2 at_ bits co fi cu ho lo hi sn A n c (.int .i64 raw) 3 w W hW
    have HK := Lib.hid hK
    have HW := Lib.hid hW
    have HB0 := Lib.hid hB0
    have hB := Below.refl W.heap.size W
    obtain ⟨c0, c1, c2, c3, c4, c5, c6, c7, c8, c9, cv⟩ := hK W hB
    clear hW hB0 hK
    have HL := Lib.hid (hw.below HB0.out)
    have HL2 := Lib.hid (hl.below HB0.out)
    clear HAl0 HPt0 hV hE ha hA hb hc0 hc1 hl2 hL hLn hw hl hm hn hcp
    generalize pointsC cu L = C at *
    by_cases hr1 : raw < lo
    · obtain ⟨rfl, rfl⟩ := HOut.out (.inl hr1)
      have d1 := decide_eq_true hr1
      clear HOut HHit HMiss HPt hC hl0 hl1 hl3 hr1
      go_enter Tryz.func25, Tryz.ntmps25
      go_wp2_with fail
      rw [← HW.out]
      refine (HAl.out _ (HL.out.below hB) (HL2.out.below hB)).mono ?_
      rintro e wk ⟨rfl, hb⟩
      replace hB := hB.trans (hb.mono hB.size)
      clear hb
      obtain ⟨c0, c1, c2, c3, c4, c5, c6, c7, c8, c9, cv⟩ := HK.out _ hB
      go_wp2_with fail
      go_ret2
      exact ⟨rfl, HB0.out.trans (hB.mono HB0.out.size)⟩
    have d1 := decide_eq_false hr1
    by_cases hr2 : hi < raw
    · obtain ⟨rfl, rfl⟩ := HOut.out (.inr hr2)
      have d2 := decide_eq_true hr2
      clear HOut HHit HMiss HPt hC hl0 hl1 hl3 hr1 hr2
      go_enter Tryz.func25, Tryz.ntmps25
      go_wp2_with fail
      rw [← HW.out]
      refine (HAl.out _ (HL.out.below hB) (HL2.out.below hB)).mono ?_
      rintro e wk ⟨rfl, hb⟩
      replace hB := hB.trans (hb.mono hB.size)
      clear hb
      obtain ⟨c0, c1, c2, c3, c4, c5, c6, c7, c8, c9, cv⟩ := HK.out _ hB
      go_wp2_with fail
      go_ret2
      exact ⟨rfl, HB0.out.trans (hB.mono HB0.out.size)⟩
    have d2 := decide_eq_false hr2
    have hrr : ¬ (raw < lo ∨ hi < raw) := by omega
    replace HHit := Lib.hid (HHit.out · hrr)
    replace HMiss := Lib.hid (HMiss.out hrr)
    have HC := Lib.hid hC
    have HLo := Lib.hid (And.intro hl0 (And.intro hl1 hl3))
    have HF0 := Lib.hid (show w.heap.size + 1 < W.heap.size by rw [HW.out]; simp)
    clear HOut hr1 hr2 hrr hC hl0 hl1 hl3
    go_enter Tryz.func25, Tryz.ntmps25
    go_wp2_with fail
    rw [← HW.out]
    refine (HAl.out _ (HL.out.below hB) (HL2.out.below hB)).mono ?_
    rintro e wk ⟨rfl, hb⟩
    replace hB := hB.trans (hb.mono hB.size)
    clear hb
    obtain ⟨c0, c1, c2, c3, c4, c5, c6, c7, c8, c9, cv⟩ := HK.out _ hB
    go_wp2_with fail
    refine (HPt.out _ (HL2.out.below hB)).mono ?_
    rintro e wk ⟨A2, n2, d2', rfl, hi2, ⟨hcap, hcap2⟩, hb⟩
    replace hB := hB.trans (hb.mono hB.size)
    clear hb
    obtain ⟨rfl, _⟩ := id hi2
    have hC2 := HC.out.two
    have hC16 := HC.out.few
    obtain ⟨b, o, rfl, hbl, hcell⟩ := pt_at hi2 (by omega)
    have HCell := Lib.hid hcell
    have HBk := Lib.hid hB
    have HBl := Lib.hid hbl
    obtain ⟨c0, c1, c2, c3, c4, c5, c6, c7, c8, c9, cv⟩ := HK.out _ hB
    clear hi2 hB HAl HPt HL HL2 hcell hbl
    have s1 : 1 ≤ C.length := by omega
    have s2 : 1 ≤ d2' := by omega
    have s3 : ¬ d2' = 1 := by omega
    have HCap := Lib.hid hcap
    clear hcap hcap2
    go_wp2_with fail
    go_loopw [39] (fun iv wr => ∃ j : Nat, j < C.length ∧ iv = .int .i64 (j : Int) ∧ LvlInv lo hi raw C j ∧ Below wk.heap.size wk wr) (fun iv _ => C.length - (intOf iv).toNat)
    case atStart => exact ⟨0, by omega, rfl, lvl_start HC.out, Below.refl _ _⟩
    case round =>
      obtain ⟨j, hj, rfl, hlow, hBr⟩ := hrel
      have HLw := Lib.hid hlow
      have HBr := Lib.hid hBr
      have hBW := HBk.out.trans (hBr.mono HBk.out.size)
      obtain ⟨c0, c1, c2, c3, c4, c5, c6, c7, c8, c9, cv⟩ := HK.out _ hBW
      have HBW := Lib.hid hBW
      clear hlow hBr hBW
      by_cases hj2 : j + 1 = C.length
      · obtain ⟨rfl, rfl⟩ := HMiss.out (lvl_end HC.out hj2 HLw.out)
        have i1 : ((j : Int) < ((C.length - 1 : Nat) : Int)) = False := by simp; omega
        go_wp2_with fail
        go_ret2
        exact ⟨rfl, HB0.out.trans (HBW.out.mono HB0.out.size)⟩
      · have hj3 : j + 1 < C.length := by omega
        obtain ⟨p0, p1⟩ := pt_keep HBl.out (HCell.out j hj) HBr.out
        obtain ⟨q0, q1⟩ := pt_keep HBl.out (HCell.out (j + 1) hj3) HBr.out
        have hbw : b < wr.heap.size := Nat.lt_of_lt_of_le HBl.out HBr.out.size
        have hx := HC.out.inX (i := j) hj
        have hy := HC.out.inX (i := j + 1) hj3
        have hst := up_step (i := j) hj3 HC.out.up
        obtain ⟨l0, l1, l2⟩ := HLo.out
        obtain ⟨N, hN⟩ : ∃ N : Nat, (N : Int) = C[j + 1].1 - C[j].1 + 1 := ⟨(C[j + 1].1 - C[j].1 + 1).toNat, by omega⟩
        obtain ⟨m, hmN, hm1, hm2⟩ := first_of (segP lo hi raw C[j] C[j + 1]) N (fun h1 h2 => segP_mono l1 (by omega) h1 h2)
        have HStep := Lib.hid (fun hne => lvl_step HC.out hj3 l1 hN hm1 hm2 hne HLw.out)
        have HHit2 := Lib.hid (fun hm he => HHit.out _ (lvl_hit HC.out hj3 hN hm hm1 he HLw.out) (by omega))
        have i2 : (j : Int) < (C.length : Int) := by omega
        have w0 : IntKind.i64.wrap ((j : Int) + 1) = (j : Int) + 1 := IntWalk.i64_in _ (by omega)
        have w2 : IntKind.i64.wrap (j : Int) = (j : Int) := IntWalk.i64_in _ (by omega)
        generalize C[j] = PA at *
        generalize C[j + 1] = PB at *
        obtain ⟨X2, Y2⟩ := PA
        obtain ⟨X, Y⟩ := PB
        dsimp only at p0 p1 q0 q1 hx hy hst hN
        obtain ⟨hx0, hx1, hx2, hx3⟩ := hx
        obtain ⟨hy0, hy1, hy2, hy3⟩ := hy
        have lY2 : isLev Y2 := ⟨hx2, hx3⟩
        have lY : isLev Y := ⟨hy2, hy3⟩
        have i0 : (0 : Int) ≤ (j : Int) := by omega
        have i1 : (j : Int) < ((C.length - 1 : Nat) : Int) := by omega
        have q0' : wr.cell? ⟨b, o + 2 + j * 2, none⟩ = some (.int .i64 X) := by rw [show o + 2 + j * 2 = o + (j + 1) * 2 by omega]; exact q0
        have q1' : wr.cell? ⟨b, o + 2 + j * 2 + 1, none⟩ = some (.int .i64 Y) := by rw [show o + 2 + j * 2 + 1 = o + (j + 1) * 2 + 1 by omega]; exact q1
        have w5 : IntKind.i64.wrap (X - X2) = X - X2 := IntWalk.i64_in _ (by omega)
        have w6 : IntKind.i64.wrap (X - X2 + 1) = X - X2 + 1 := IntWalk.i64_in _ (by omega)
        obtain ⟨W5, hW5⟩ : ∃ W5, W5 = ((((wr.alloc (.cells #[.int .i64 X, .int .i64 Y] 106)).alloc (.cells #[.int .i64 X2, .int .i64 Y2] 106)).alloc (.cells #[.int .i64 (X - X2)] 3)).alloc (.cells #[.func (.func 62) #[] #[.pointer (some ⟨wr.heap.size + 1, 0, none⟩), .pointer (some ⟨wr.heap.size + 1 + 1, 0, none⟩), .pointer (some ⟨wr.heap.size, 0, none⟩), .pointer (some ⟨w.heap.size, 0, none⟩)]] 104)).alloc (.cells #[.bool (decide (Y2 ≤ Y))] 4) := ⟨_, rfl⟩
        obtain ⟨hB5, hs5, hk5⟩ := five_boxes X Y X2 Y2 (X - X2) _ _ wr W5 _ _ _ _ hW5
        have HS := search_any 64 #[.pointer (some ⟨wr.heap.size + 1 + 1 + 1 + 1, 0, none⟩), .pointer (some ⟨wr.heap.size + 1 + 1 + 1, 0, none⟩), .pointer (some ⟨w.heap.size + 1, 0, none⟩)] N (segP lo hi raw (X2, Y2) (X, Y)) m W5 (enters_of Tryz.func64 (by kernel_rfl) rfl) (by omega)
          (fun i W' hi' hW' => by
            obtain ⟨e0, e1, e2, e3, e4, e5, e6⟩ := hk5 W' hW'
            obtain ⟨-, -, -, -, -, -, f6, f7, -, -, fv⟩ := HK.out W' (HBW.out.trans ((hB5.trans (hW'.mono hB5.size)).mono HBW.out.size))
            exact plev2_any (wr.heap.size + 1 + 1 + 1 + 1) (wr.heap.size + 1 + 1 + 1) (w.heap.size + 1) _ _ _ _ (decide (Y2 ≤ Y)) raw (rawQ lo hi (segN (X2, Y2) (X, Y) i) (X - X2)) i W' e6 e5 fv (fun nn => plev1q_any (wr.heap.size + 1) (wr.heap.size + 1 + 1) wr.heap.size w.heap.size Y2 (X - X2) Y lo hi i (W'.drewN nn) lY2 lY (by omega) (by omega) ⟨l0, l1, l2⟩ e3 e4 e1 f6 f7))
          hmN hm1 hm2
        rw [hN] at HS
        replace HS := Lib.hid HS
        have HW5 := Lib.hid hW5
        have HB5 := Lib.hid hB5
        have HK5 := Lib.hid hk5
        have n1 : ¬ b = wr.heap.size := by omega
        have n2 : b < wr.heap.size + 1 := by omega
        clear hW5 hB5 hk5 hs5
        go_wp2_with fail
        rw [← HW5.out]
        refine HS.out.mono ?_
        rintro e w1 ⟨rfl, hb⟩
        have hB := hb
        clear hb HS c0 c1 c2 c3 c4 c5 c6 c7 c8 c9 cv p0 p1 q0 q1 q0' q1' n1 n2 hbw
        obtain ⟨e0, e1, e2, e3, e4, e5, e6⟩ := HK5.out _ hB
        have HBr1 := Lib.hid (HB5.out.trans (hB.mono HB5.out.size))
        obtain ⟨c0, c1, c2, c3, c4, c5, c6, c7, c8, c9, cv⟩ := HK.out _ (HBW.out.trans (HBr1.out.mono HBW.out.size))
        by_cases hmN2 : m < N
        · have hd1 : decide ((m : Int) ≤ X - X2) = true := decide_eq_true (by omega)
          obtain ⟨QV, hQV⟩ : ∃ QV, rawQ lo hi (segN (X2, Y2) (X, Y) m) (X - X2) = QV := ⟨_, rfl⟩
          have HQ1 := Lib.hid (show ∀ nn, Calls Tryz.prog 62 #[.int .i64 (m : Int), .pointer (some ⟨wr.heap.size + 1, 0, none⟩), .pointer (some ⟨wr.heap.size + 1 + 1, 0, none⟩), .pointer (some ⟨wr.heap.size, 0, none⟩), .pointer (some ⟨w.heap.size, 0, none⟩)] (w1.drewN nn) fun e w' => e = .returned (.int .i64 QV) ∧ ∃ mm, w' = (w1.drewN nn).drewN mm by
            rw [← hQV]
            exact fun nn => plev1q_any (wr.heap.size + 1) (wr.heap.size + 1 + 1) wr.heap.size w.heap.size Y2 (X - X2) Y lo hi m (w1.drewN nn) lY2 lY (by omega) (by omega) ⟨l0, l1, l2⟩ e3 e4 e1 c6 c7)
          by_cases he : QV = raw
          · have g1 : (QV == raw) = true := by rw [he]; exact beq_self_eq_true _
            obtain ⟨rfl, rfl⟩ := HHit2.out hmN2 (hQV.trans he)
            have w7 : IntKind.i64.wrap (X2 + (m : Int)) = X2 + (m : Int) := IntWalk.i64_in _ (by omega)
            clear HStep HHit2 hm1 hm2 hQV he HMiss HHit
            go_wp2_with fail
            go_quiet ((exact Calls.quiet_of (HQ1.out _)))
            go_wp2
            go_ret2
            exact ⟨rfl, HB0.out.trans ((HBW.out.trans ((HBr1.out.trans (by (repeat (first | exact Below.refl _ _ | assumption | apply Below.drew | apply below_drewN | (refine Below.alloc ?_ (by first | omega | (simp; omega) | simp) _) | (refine Below.setCell ?_ (by first | omega | (simp; omega) | simp) _) | (refine Below.trans ?_ (Below.mono (by assumption) (by first | omega | (simp; omega) | simp))))))).mono HBW.out.size)).mono HB0.out.size)⟩
          · have g1 : (QV == raw) = false := beq_eq_false_iff_ne.2 he
            have HN := Lib.hid (HStep.out (fun _ => by rw [show rawQ lo hi (segN (X2, Y2) (X, Y) m) ((X, Y).1 - (X2, Y2).1) = QV from hQV]; exact he))
            clear HStep HHit2 hm1 hm2 hQV he HMiss HHit
            go_wp2_with fail
            go_quiet ((exact Calls.quiet_of (HQ1.out _)))
            go_wp2
            go_roundw
            case rel => exact ⟨j + 1, hj3, by go_num, HN.out, HBr.out.trans ((HBr1.out.trans (by (repeat (first | exact Below.refl _ _ | assumption | apply Below.drew | apply below_drewN | (refine Below.alloc ?_ (by first | omega | (simp; omega) | simp) _) | (refine Below.setCell ?_ (by first | omega | (simp; omega) | simp) _) | (refine Below.trans ?_ (Below.mono (by assumption) (by first | omega | (simp; omega) | simp))))))).mono HBr.out.size)⟩
            case measure => simp [intOf]; omega
        · have hd1 : decide ((m : Int) ≤ X - X2) = false := decide_eq_false (by omega)
          have HN := Lib.hid (HStep.out (fun h => absurd h hmN2))
          clear HStep HHit2 hm1 hm2 HMiss HHit
          go_wp2_with fail
          go_quiet (fail)
          go_wp2
          go_roundw
          case rel => exact ⟨j + 1, hj3, by go_num, HN.out, HBr.out.trans ((HBr1.out.trans (by (repeat (first | exact Below.refl _ _ | assumption | apply Below.drew | apply below_drewN | (refine Below.alloc ?_ (by first | omega | (simp; omega) | simp) _) | (refine Below.setCell ?_ (by first | omega | (simp; omega) | simp) _) | (refine Below.trans ?_ (Below.mono (by assumption) (by first | omega | (simp; omega) | simp))))))).mono HBr.out.size)⟩
          case measure => simp [intOf]; omega
  · have hE : levelE (f.fea wl) L raw = aloneE (f.fea wl) L := by unfold levelE; rw [if_pos ha]
    have hV : levelV (f.fea wl) L raw = 0 := by unfold levelV; rw [hE, if_pos ha]
    rw [hE, hV]
    generalize aloneE (f.fea wl) L = q at *
    have g1 : (q == 0) = false := by simpa using ha
    have g2 : (q != 0) = true := by simpa using ha
    obtain ⟨at_, bits, co, fi, cu, ho, lo, hi, sn, A, n, c⟩ := f
    have HAl := Lib.hid (show ∀ w', FW w' ⟨at_, bits, co, fi, cu, ho, lo, hi, sn, A, n, c⟩ wl → InN w' A' n' H L → Calls Tryz.prog 43 #[.agg #[.int .i64 at_, .int .i64 bits, .int .i64 co, .int .i64 fi, .int .i64 cu, .int .i64 ho, .int .i64 lo, .int .i64 hi, .bool sn, .slice A n c], .slice A' n' c'] w' fun e w'' => e = .returned (.int .i64 q) ∧ Below w'.heap.size w' w'' from HAl0.out)
    show Calls Tryz.prog 25 #[.agg #[.int .i64 at_, .int .i64 bits, .int .i64 co, .int .i64 fi, .int .i64 cu, .int .i64 ho, .int .i64 lo, .int .i64 hi, .bool sn, .slice A n c], .slice A' n' c', .int .i64 raw] w fun e w' => e = .returned (.tuple #[.int .i64 0, .int .i64 q]) ∧ Below w.heap.size w w'
    obtain ⟨W, hW⟩ : ∃ W, W = (w.alloc (.cells #[.int .i64 at_, .int .i64 bits, .int .i64 co, .int .i64 fi, .int .i64 cu, .int .i64 ho, .int .i64 lo, .int .i64 hi, .bool sn, .slice A n c] 24)).alloc (.cells #[.int .i64 raw] 3) := ⟨_, rfl⟩
    obtain ⟨hB0, hK⟩ := fbox2 at_ bits co fi cu ho lo hi sn A n c (.int .i64 raw) 3 w W hW
    have HK := Lib.hid hK
    have HW := Lib.hid hW
    have HB0 := Lib.hid hB0
    have hB := Below.refl W.heap.size W
    obtain ⟨c0, c1, c2, c3, c4, c5, c6, c7, c8, c9, cv⟩ := hK W hB
    clear hW hB0 hK
    have HL := Lib.hid (hw.below HB0.out)
    have HL2 := Lib.hid (hl.below HB0.out)
    clear HAl0 hE hV ha hw hl hm hn hcp
    go_enter Tryz.func25, Tryz.ntmps25
    go_wp2_with fail
    rw [← HW.out]
    refine (HAl.out _ (HL.out.below hB) (HL2.out.below hB)).mono ?_
    rintro e wk ⟨rfl, hb⟩
    replace hB := hB.trans (hb.mono hB.size)
    clear hb
    obtain ⟨c0, c1, c2, c3, c4, c5, c6, c7, c8, c9, cv⟩ := HK.out _ hB
    go_wp2_with fail
    go_ret2
    exact ⟨rfl, HB0.out.trans (hB.mono HB0.out.size)⟩
end Go.Proofs.YtpinmgoeapakdaaGreatDoor

namespace Go.Proofs.YtpinmgoeapakdaaGreatDoor
open Go.RowKit

theorem mul_bdr {x y X Y : Int} (hx : -X ≤ x ∧ x ≤ X) (hy : -Y ≤ y ∧ y ≤ Y) : -(X * Y) ≤ x * y ∧ x * y ≤ X * Y := by
  have h1 : x.natAbs ≤ X.natAbs := by omega
  have h2 : y.natAbs ≤ Y.natAbs := by omega
  have h3 := Nat.mul_le_mul h1 h2
  rw [← Int.natAbs_mul, ← Int.natAbs_mul] at h3
  have h4 : 0 ≤ X * Y := Int.mul_nonneg (by omega) (by omega)
  omega
set_option maxRecDepth 100000 in
set_option maxHeartbeats 4000000 in
theorem r9plain_any (A : Option Addr) (n c : Nat) (l : List PT) (v : Int) (w : World) (hl : shP.In w A n l) (hok : OkC l) (hv : isLev v) :
    Calls Tryz.prog 66 #[.slice A n c, .int .i64 v] w fun e w' => e = .returned (.tuple #[.int .i64 (plainN l v).1, .int .i64 (plainN l v).2]) ∧ Below w.heap.size w w' := by
  obtain ⟨rfl, _⟩ := id hl
  have h2 := hok.two
  have h16 := hok.few
  obtain ⟨b, o, rfl, hbl, hcell⟩ := pt_at hl (by omega)
  have HCell := Lib.hid hcell
  have Hok := Lib.hid hok
  obtain ⟨V1, hV1⟩ : ∃ V1, (plainN l v).1 = V1 := ⟨_, rfl⟩
  obtain ⟨V2, hV2⟩ : ∃ V2, (plainN l v).2 = V2 := ⟨_, rfl⟩
  rw [hV1, hV2]
  have HV := Lib.hid (And.intro hV1 hV2)
  have Hv := Lib.hid hv
  clear hok hcell hl hV1 hV2 hv
  go_enter Tryz.func66, Tryz.ntmps66
  go_wp2_with fail
  go_loopw [6] (fun iv wr => ∃ j : Nat, j + 1 < l.length ∧ iv = .int .i64 ((j + 1 : Nat) : Int) ∧ (∀ t (ht : t < l.length), 0 < t → t < j + 1 → l[t].1 < v) ∧ Below w.heap.size w wr) (fun iv _ => l.length - (intOf iv).toNat)
  case atStart => exact ⟨0, by omega, rfl, fun t ht h1 h2 => absurd h1 (by omega), Below.refl _ _⟩
  case round =>
    obtain ⟨j, hj, rfl, hlow, hBr⟩ := hrel
    have HBr := Lib.hid hBr
    have hx := Hok.out.inX (i := j) (by omega)
    have hy := Hok.out.inX (i := j + 1) hj
    obtain ⟨p0, p1⟩ := pt_keep hbl (HCell.out j (by omega)) hBr
    obtain ⟨q0, q1⟩ := pt_keep hbl (HCell.out (j + 1) hj) hBr
    have hbw : b < wr.heap.size := Nat.lt_of_lt_of_le hbl hBr.size
    have i0 : (0 : Int) ≤ (j : Int) := by omega
    have i1 : (j : Int) < (l.length : Int) := by omega
    have i2 : (j : Int) + 1 < (l.length : Int) := by omega
    have i3 : (0 : Int) ≤ (j : Int) + 1 := by omega
    have w1 : IntKind.i64.wrap ((j : Int) + 1 - 1) = (j : Int) := by rw [Int.add_sub_cancel]; exact IntWalk.i64_in _ (by omega)
    have w2 : IntKind.i64.wrap (j : Int) = (j : Int) := IntWalk.i64_in _ (by omega)
    have w3 : IntKind.i64.wrap ((j : Int) + 1 + 1) = (j : Int) + 1 + 1 := IntWalk.i64_in _ (by omega)
    have w4 : IntKind.i64.wrap ((j : Int) + 1) = (j : Int) + 1 := IntWalk.i64_in _ (by omega)
    by_cases hgo : l[j + 1].1 < v
    · have hj2 : j + 1 + 1 < l.length := by
        rcases Nat.lt_or_ge (j + 1 + 1) l.length with h | h
        · exact h
        · exfalso
          have e := Hok.out.last_at
          have e2 : l.length - 1 = j + 1 := by omega
          simp only [e2] at e
          have := Hv.out
          unfold isLev at this
          omega
      have HN := Lib.hid (show ∀ t (ht : t < l.length), 0 < t → t < j + 1 + 1 → l[t].1 < v from fun t ht h1 h2 => by
        by_cases h3 : t < j + 1
        · exact hlow t ht h1 h3
        · obtain rfl : t = j + 1 := by omega
          exact hgo)
      generalize l[j + 1].1 = X at *
      clear hlow hx hy hBr
      go_wp2_with fail
      go_roundw
      case rel => exact ⟨j + 1, hj2, by go_num, HN.out, HBr.out⟩
      case measure => simp [intOf]; omega
    · have hpl := plainN_at hj hlow (Int.not_lt.1 hgo)
      have hst := up_step (i := j) hj Hok.out.up
      rw [(Prod.ext HV.out.1 HV.out.2 : plainN l v = (V1, V2))] at hpl
      have hv := Hv.out
      unfold isLev at hv
      obtain ⟨hx0, hx1, hx2, hx3⟩ := hx
      obtain ⟨hy0, hy1, hy2, hy3⟩ := hy
      generalize l[j + 1].2 = Y at *
      generalize l[j + 1].1 = X at *
      generalize l[j].2 = Y2 at *
      generalize l[j].1 = X2 at *
      obtain ⟨e1, e2⟩ := Prod.mk.inj hpl
      have HV2 := Lib.hid (And.intro e1 e2)
      obtain ⟨m1, m2⟩ := mul_bdr (x := Y2) (y := X - X2) (X := 65535) (Y := 65535) (by omega) (by omega)
      obtain ⟨m3, m4⟩ := mul_bdr (x := Y - Y2) (y := v - X2) (X := 65535) (Y := 65535) (by omega) (by omega)
      have w5 : IntKind.i64.wrap (X - X2) = X - X2 := IntWalk.i64_in _ (by omega)
      have w6 : IntKind.i64.wrap (Y2 * (X - X2)) = Y2 * (X - X2) := IntWalk.i64_in _ (by omega)
      have w7 : IntKind.i64.wrap (Y - Y2) = Y - Y2 := IntWalk.i64_in _ (by omega)
      have w8 : IntKind.i64.wrap (v - X2) = v - X2 := IntWalk.i64_in _ (by omega)
      have w9 : IntKind.i64.wrap ((Y - Y2) * (v - X2)) = (Y - Y2) * (v - X2) := IntWalk.i64_in _ (by omega)
      have w10 : IntKind.i64.wrap (Y2 * (X - X2) + (Y - Y2) * (v - X2)) = Y2 * (X - X2) + (Y - Y2) * (v - X2) := IntWalk.i64_in _ (by omega)
      have n1 : b < wr.heap.size := hbw
      have n2 : ¬ b = wr.heap.size := by omega
      have n3 : ¬ b = wr.heap.size + 1 := by omega
      have n4 : b < wr.heap.size + 1 := by omega
      clear hlow hx0 hx1 hx2 hx3 hy0 hy1 hy2 hy3 hst hBr hbw HV hpl e1 e2 m1 m2 m3 m4 hv
      go_wp2_with fail
      obtain ⟨Ok6, hOk6⟩ : ∃ Ok6 : World → Nat → Nat → Prop, Ok6 = fun W6 Pa Pb => Below w.heap.size w W6 ∧ ∀ w', Below W6.heap.size W6 w' → w'.cell? ⟨Pa, 0, none⟩ = some (.int .i64 X2) ∧ w'.cell? ⟨Pa, 1, none⟩ = some (.int .i64 Y2) ∧ w'.cell? ⟨Pb, 0, none⟩ = some (.int .i64 X) ∧ w'.cell? ⟨Pb, 1, none⟩ = some (.int .i64 Y) := ⟨_, rfl⟩
      have HOk := Lib.hid hOk6
      clear hOk6
      refine (fun (key : (?S : Prop)) => ?main) ?kk
      case main =>
        go_region
        · generalize hW6q : World.drew _ = W6
          have hW6 : ((wr.alloc (.cells #[.int .i64 X2, .int .i64 Y2] 106)).alloc (.cells #[.int .i64 X, .int .i64 Y] 106)).drew = W6 := hW6q
          clear hW6q
          obtain ⟨hbb, hkb⟩ := two_pts wr X2 Y2 X Y W6 hW6
          have hok : Ok6 W6 (wr.heap.size) (wr.heap.size + 1) := by
            rw [HOk.out]
            exact ⟨HBr.out.trans (hbb.mono HBr.out.size), fun w' h => ⟨(hkb w' h).1.1, (hkb w' h).1.2, (hkb w' h).2.1, (hkb w' h).2.2⟩⟩
          clear hW6 hbb hkb
          revert hok
          generalize wr.heap.size + 1 = Pb
          generalize wr.heap.size = Pa
          revert W6 Pa Pb
          exact key
        · generalize hW6q : World.drew _ = W6
          have hW6 : ((wr.alloc (.cells #[.int .i64 X, .int .i64 Y] 106)).alloc (.cells #[.int .i64 X2, .int .i64 Y2] 106)).drew = W6 := hW6q
          clear hW6q
          obtain ⟨hbb, hkb⟩ := two_pts wr X Y X2 Y2 W6 hW6
          have hok : Ok6 W6 (wr.heap.size + 1) (wr.heap.size) := by
            rw [HOk.out]
            exact ⟨HBr.out.trans (hbb.mono HBr.out.size), fun w' h => ⟨(hkb w' h).2.1, (hkb w' h).2.2, (hkb w' h).1.1, (hkb w' h).1.2⟩⟩
          clear hW6 hbb hkb
          exact key _ _ _ hok
      case kk =>
        intro W6 Pb Pa hok
        rw [HOk.out] at hok
        have HB6 := Lib.hid hok.1
        have HK6 := Lib.hid hok.2
        clear hok HOk p0 p1 q0 q1 n1 n2 n3 n4
        have hB := Below.refl W6.heap.size W6
        obtain ⟨a0, a1, b0, b1⟩ := HK6.out _ hB
        go_wp2_with fail
        go_quiet (fail)
        go_wp2
        go_ret2
        exact ⟨by rw [HV2.out.1, HV2.out.2]; rfl, HB6.out.trans (by (repeat (first | exact Below.refl _ _ | assumption | apply Below.drew | apply below_drewN | (refine Below.alloc ?_ (by first | omega | (simp; omega) | simp) _) | (refine Below.setCell ?_ (by first | omega | (simp; omega) | simp) _) | (refine Below.trans ?_ (Below.mono (by assumption) (by first | omega | (simp; omega) | simp))))))⟩
end Go.Proofs.YtpinmgoeapakdaaGreatDoor

namespace Go.Proofs.YtpinmgoeapakdaaGreatDoor
open Go.RowKit

set_option maxRecDepth 100000 in
set_option maxHeartbeats 8000000 in
theorem rLevel_any (f : FC) (wl : List Slt) (A' : Option Addr) (n' c' : Nat) (H : List Hd) (L : List (List PT)) (raw : Int) (w : World) (hw : FW w f wl) (hl : InN w A' n' H L) (hm : ∀ h ∈ H, h.n ≤ 9223372036854775807) (hn : n' ≤ 9223372036854775807) :
    Calls Tryz.prog 26 #[f.val, .slice A' n' c', .int .i64 raw] w fun e w' => e = .returned (.tuple #[.int .i64 (levelV (f.fea wl) L raw), .int .i64 (levelE (f.fea wl) L raw)]) ∧ Below w.heap.size w w' := by
  have HAl0 := Lib.hid (fun w hw hl => ralone_any f wl A' n' c' H L w hw hl hm hn)
  by_cases ha : aloneE (f.fea wl) L = 0
  · rw [ha] at HAl0
    obtain ⟨hA, hb, hc0, hc1, -, hl0, hl1, hl2, -⟩ := alone_ok ha
    have hL := hl.2.1
    have hLn := hl.1.1
    have HPt0 := Lib.hid (fun w hl => rcurve_any f A' n' c' H L w hl hc0 (by have : f.cu ≤ L.length := hc1; omega) hn)
    have hC := points_ok hA hc0 hc1
    have HOut := Lib.hid (fun h => lv_out (raw := raw) ha h)
    have HHit := Lib.hid (fun k h hk k0 => lv_hit (raw := raw) (k := k) ha h hk k0)
    have HMiss := Lib.hid (fun h hk => lv_miss (raw := raw) ha h hk)
    obtain ⟨at_, bits, co, fi, cu, ho, lo, hi, sn, A, n, c⟩ := f
    replace hl0 : 0 ≤ lo := hl0
    replace hl1 : lo ≤ hi := hl1
    have hl3 : hi ≤ 65535 := Int.le_trans hl2 (topV_le _)
    replace hC : OkC (pointsC cu L) := hC
    have HAl := Lib.hid (show ∀ w', FW w' ⟨at_, bits, co, fi, cu, ho, lo, hi, sn, A, n, c⟩ wl → InN w' A' n' H L → Calls Tryz.prog 52 #[.agg #[.int .i64 at_, .int .i64 bits, .int .i64 co, .int .i64 fi, .int .i64 cu, .int .i64 ho, .int .i64 lo, .int .i64 hi, .bool sn, .slice A n c], .slice A' n' c'] w' fun e w'' => e = .returned (.int .i64 0) ∧ Below w'.heap.size w' w'' from HAl0.out)
    have HPt := Lib.hid (show ∀ w', InN w' A' n' H L → Calls Tryz.prog 65 #[.agg #[.int .i64 at_, .int .i64 bits, .int .i64 co, .int .i64 fi, .int .i64 cu, .int .i64 ho, .int .i64 lo, .int .i64 hi, .bool sn, .slice A n c], .slice A' n' c'] w' fun e w'' => ∃ A2 n2 c2, e = .returned (.slice A2 n2 c2) ∧ shP.In w'' A2 n2 (pointsC cu L) ∧ Below w'.heap.size w' w'' from HPt0.out)
    obtain ⟨V, hV⟩ : ∃ V, levelV (FC.fea ⟨at_, bits, co, fi, cu, ho, lo, hi, sn, A, n, c⟩ wl) L raw = V := ⟨_, rfl⟩
    obtain ⟨E, hE⟩ : ∃ E, levelE (FC.fea ⟨at_, bits, co, fi, cu, ho, lo, hi, sn, A, n, c⟩ wl) L raw = E := ⟨_, rfl⟩
    show Calls Tryz.prog 26 #[.agg #[.int .i64 at_, .int .i64 bits, .int .i64 co, .int .i64 fi, .int .i64 cu, .int .i64 ho, .int .i64 lo, .int .i64 hi, .bool sn, .slice A n c], .slice A' n' c', .int .i64 raw] w fun e w' => e = .returned (.tuple #[.int .i64 (levelV (FC.fea ⟨at_, bits, co, fi, cu, ho, lo, hi, sn, A, n, c⟩ wl) L raw), .int .i64 (levelE (FC.fea ⟨at_, bits, co, fi, cu, ho, lo, hi, sn, A, n, c⟩ wl) L raw)]) ∧ Below w.heap.size w w'
    rw [hV, hE]
    replace HOut := Lib.hid (show raw < lo ∨ hi < raw → E = 2 ∧ V = 0 from fun h => by have := HOut.out h; rw [hE, hV] at this; exact this)
    replace HHit := Lib.hid (show ∀ k, ¬ (raw < lo ∨ hi < raw) → lvlOf lo hi (pointsC cu L) raw = k → 0 ≤ k → E = 0 ∧ V = k from fun k h h1 h2 => by have := HHit.out k h h1 h2; rw [hE, hV] at this; exact this)
    replace HMiss := Lib.hid (show ¬ (raw < lo ∨ hi < raw) → lvlOf lo hi (pointsC cu L) raw = -1 → E = 12 ∧ V = 0 from fun h h1 => by have := HMiss.out h h1; rw [hE, hV] at this; exact this)
    obtain ⟨W, hW⟩ : ∃ W, W = w.alloc (.cells #[.int .i64 at_, .int .i64 bits, .int .i64 co, .int .i64 fi, .int .i64 cu, .int .i64 ho, .int .i64 lo, .int .i64 hi, .bool sn, .slice A n c] 24) := ⟨_, rfl⟩
    obtain ⟨hB0, hK⟩ := fbox at_ bits co fi cu ho lo hi sn A n c w W hW
    have HK := Lib.hid hK
    have HW := Lib.hid hW
    have HB0 := Lib.hid hB0
    have hB := Below.refl W.heap.size W
    obtain ⟨c0, c1, c2, c3, c4, c5, c6, c7, c8, c9⟩ := hK W hB
    clear hW hB0 hK
    have HL := Lib.hid (hw.below HB0.out)
    have HL2 := Lib.hid (hl.below HB0.out)
    clear HAl0 HPt0 hV hE ha hA hb hc0 hc1 hl2 hL hLn hw hl hm hn
    generalize pointsC cu L = C at *
    by_cases hr1 : raw < lo
    · obtain ⟨rfl, rfl⟩ := HOut.out (.inl hr1)
      have d1 := decide_eq_true hr1
      clear HOut HHit HMiss HPt hC hl0 hl1 hl3 hr1
      go_enter Tryz.func26, Tryz.ntmps26
      go_wp2_with fail
      rw [← HW.out]
      refine (HAl.out _ (HL.out.below hB) (HL2.out.below hB)).mono ?_
      rintro e wk ⟨rfl, hb⟩
      replace hB := hB.trans (hb.mono hB.size)
      clear hb
      obtain ⟨c0, c1, c2, c3, c4, c5, c6, c7, c8, c9⟩ := HK.out _ hB
      go_wp2_with fail
      go_ret2
      exact ⟨rfl, HB0.out.trans (hB.mono HB0.out.size)⟩
    have d1 := decide_eq_false hr1
    by_cases hr2 : hi < raw
    · obtain ⟨rfl, rfl⟩ := HOut.out (.inr hr2)
      have d2 := decide_eq_true hr2
      clear HOut HHit HMiss HPt hC hl0 hl1 hl3 hr1 hr2
      go_enter Tryz.func26, Tryz.ntmps26
      go_wp2_with fail
      rw [← HW.out]
      refine (HAl.out _ (HL.out.below hB) (HL2.out.below hB)).mono ?_
      rintro e wk ⟨rfl, hb⟩
      replace hB := hB.trans (hb.mono hB.size)
      clear hb
      obtain ⟨c0, c1, c2, c3, c4, c5, c6, c7, c8, c9⟩ := HK.out _ hB
      go_wp2_with fail
      go_ret2
      exact ⟨rfl, HB0.out.trans (hB.mono HB0.out.size)⟩
    have d2 := decide_eq_false hr2
    have hrr : ¬ (raw < lo ∨ hi < raw) := by omega
    replace HHit := Lib.hid (HHit.out · hrr)
    replace HMiss := Lib.hid (HMiss.out hrr)
    have HC := Lib.hid hC
    have HLo := Lib.hid (And.intro hl0 (And.intro hl1 hl3))
    clear HOut hr1 hr2 hrr hC hl0 hl1 hl3
    go_enter Tryz.func26, Tryz.ntmps26
    go_wp2_with fail
    rw [← HW.out]
    refine (HAl.out _ (HL.out.below hB) (HL2.out.below hB)).mono ?_
    rintro e wk ⟨rfl, hb⟩
    replace hB := hB.trans (hb.mono hB.size)
    clear hb
    obtain ⟨c0, c1, c2, c3, c4, c5, c6, c7, c8, c9⟩ := HK.out _ hB
    go_wp2_with fail
    refine (HPt.out _ (HL2.out.below hB)).mono ?_
    rintro e wk ⟨A2, n2, d2', rfl, hi2, hb⟩
    replace hB := hB.trans (hb.mono hB.size)
    clear hb
    obtain ⟨c0, c1, c2, c3, c4, c5, c6, c7, c8, c9⟩ := HK.out _ hB
    have HIn := Lib.hid hi2
    have HBk := Lib.hid hB
    clear hi2 hB HAl HPt HL HL2
    go_wp2_with fail
    go_loopw [10] (fun iv wr => ∃ j : Nat, j ≤ 65536 ∧ iv = .int .i64 (j : Int) ∧ (∀ u : Nat, u < j → rawI lo hi C u ≠ raw) ∧ Below wk.heap.size wk wr) (fun iv _ => 65536 - (intOf iv).toNat)
    case atStart => exact ⟨0, by omega, rfl, fun u hu => absurd hu (by omega), Below.refl _ _⟩
    case round =>
      obtain ⟨j, hj, rfl, hlow, hBr⟩ := hrel
      have HLw := Lib.hid hlow
      have HBr := Lib.hid hBr
      have hBW := HBk.out.trans (hBr.mono HBk.out.size)
      obtain ⟨c0, c1, c2, c3, c4, c5, c6, c7, c8, c9⟩ := HK.out _ hBW
      have HBW := Lib.hid hBW
      clear hlow hBr hBW
      by_cases hj2 : j = 65536
      · subst hj2
        obtain ⟨rfl, rfl⟩ := HMiss.out (by
          unfold lvlOf
          exact lvlN_none fun u hu => decide_eq_false (HLw.out u hu))
        go_wp2_with fail
        go_ret2
        exact ⟨rfl, HB0.out.trans (HBW.out.mono HB0.out.size)⟩
      · have hj3 : (j : Int) ≤ 65535 := by omega
        have i1 : (j : Int) ≤ 65535 := hj3
        have w0 : IntKind.i64.wrap ((j : Int) + 1) = (j : Int) + 1 := IntWalk.i64_in _ (by omega)
        have hbd := plainN_bd HC.out (v := (j : Int)) (by omega) hj3
        have HPl := Lib.hid (fun w hl => r9plain_any A2 n2 d2' C (j : Int) w hl HC.out ⟨by omega, hj3⟩)
        have hRw : rawI lo hi C (j : Int) = rawQ lo hi (plainN C (j : Int)).1 (plainN C (j : Int)).2 := rfl
        obtain ⟨RV, hRV⟩ : ∃ RV, rawI lo hi C (j : Int) = RV := ⟨_, rfl⟩
        rw [hRV] at hRw
        have HRV := Lib.hid hRV
        generalize (plainN C (j : Int)).1 = N at *
        generalize (plainN C (j : Int)).2 = wd at *
        obtain ⟨w0', w1', hn0, hn1⟩ := hbd
        obtain ⟨l0, l1, l2⟩ := HLo.out
        obtain ⟨p5, p6⟩ := mul_bdr (x := 2 * (hi - lo)) (y := N) (X := 131070) (Y := 4294836225) (by omega) (by omega)
        have w5 : IntKind.i64.wrap (hi - lo) = hi - lo := IntWalk.i64_in _ (by omega)
        have w6 : IntKind.i64.wrap (2 * (hi - lo)) = 2 * (hi - lo) := IntWalk.i64_in _ (by omega)
        have w7 : IntKind.i64.wrap (2 * (hi - lo) * N) = 2 * (hi - lo) * N := IntWalk.i64_in _ (by omega)
        have w8 : IntKind.i64.wrap (wd * 65535) = wd * 65535 := IntWalk.i64_in _ (by omega)
        have w9 : IntKind.i64.wrap (2 * wd) = 2 * wd := IntWalk.i64_in _ (by omega)
        have w10 : IntKind.i64.wrap (2 * wd * 65535) = 2 * wd * 65535 := IntWalk.i64_in _ (by omega)
        have hm0 : 0 ≤ 2 * (hi - lo) * N := Int.mul_nonneg (by omega) hn0
        have w11 : IntKind.i64.wrap (2 * (hi - lo) * N + wd * 65535) = 2 * (hi - lo) * N + wd * 65535 := IntWalk.i64_in _ (by omega)
        have hz : (2 * wd * 65535 == 0) = false := by rw [beq_eq_false_iff_ne]; omega
        unfold rawQ at hRw
        generalize hM : 2 * (hi - lo) * N + wd * 65535 = M at *
        have hM0 : 0 ≤ M ∧ M ≤ 1000000000000000 := by omega
        have q1 : Int.tdiv M (2 * wd * 65535) = M / (2 * wd * 65535) := Int.tdiv_eq_ediv_of_nonneg hM0.1
        have q2 : 0 ≤ M / (2 * wd * 65535) := Int.ediv_nonneg hM0.1 (by omega)
        have q3 : M / (2 * wd * 65535) ≤ M := Int.ediv_le_self _ hM0.1
        have w12 : IntKind.i64.wrap (M / (2 * wd * 65535)) = M / (2 * wd * 65535) := IntWalk.i64_in _ (by omega)
        have w13 : IntKind.i64.wrap (lo + M / (2 * wd * 65535)) = lo + M / (2 * wd * 65535) := IntWalk.i64_in _ (by omega)
        have hd1 : ¬ 2 * wd * 65535 = 0 := by omega
        have hi2 := HIn.out.below HBr.out
        have hB := Below.refl wr.heap.size wr
        clear p5 p6 hm0 hM0 q2 q3 w0' w1' hn0 hn1 l0 l1 l2 hRV hj3
        by_cases he : RV = raw
        · have e1 : (lo + M / (2 * wd * 65535) == raw) = true := by rw [← hRw, he]; exact beq_self_eq_true _
          obtain ⟨rfl, rfl⟩ := HHit.out (j : Int) (by
            unfold lvlOf
            exact lvlN_some (by omega) (fun u hu => decide_eq_false (HLw.out u hu)) (decide_eq_true (HRV.out.trans he))) (by omega)
          clear hRw he
          go_wp2_with fail
          refine (HPl.out _ hi2).mono ?_
          rintro e wm ⟨rfl, hb⟩
          replace hB := hb
          clear hb hi2
          obtain ⟨c0, c1, c2, c3, c4, c5, c6, c7, c8, c9⟩ := HK.out _ (HBW.out.trans (hB.mono HBW.out.size))
          go_wp2_with fail
          go_quiet (fail)
          go_wp2
          go_ret2
          exact ⟨rfl, HB0.out.trans ((HBW.out.trans ((hB.trans (by (repeat (first | exact Below.refl _ _ | assumption | apply Below.drew | apply below_drewN | (refine Below.alloc ?_ (by first | omega | (simp; omega) | simp) _) | (refine Below.setCell ?_ (by first | omega | (simp; omega) | simp) _) | (refine Below.trans ?_ (Below.mono (by assumption) (by first | omega | (simp; omega) | simp))))))).mono HBW.out.size)).mono HB0.out.size)⟩
        · have e1 : (lo + M / (2 * wd * 65535) == raw) = false := by rw [← hRw]; exact beq_eq_false_iff_ne.2 he
          have HN := Lib.hid (show ∀ u : Nat, u < j + 1 → rawI lo hi C u ≠ raw from fun u hu => by
            by_cases hu2 : u < j
            · exact HLw.out u hu2
            · obtain rfl : u = j := by omega
              rw [HRV.out]; exact he)
          clear hRw he
          go_wp2_with fail
          refine (HPl.out _ hi2).mono ?_
          rintro e wm ⟨rfl, hb⟩
          replace hB := hb
          clear hb hi2
          obtain ⟨c0, c1, c2, c3, c4, c5, c6, c7, c8, c9⟩ := HK.out _ (HBW.out.trans (hB.mono HBW.out.size))
          go_wp2_with fail
          go_quiet (fail)
          go_wp2
          go_roundw
          case rel => exact ⟨j + 1, by omega, by go_num, HN.out, HBr.out.trans ((hB.trans (by (repeat (first | exact Below.refl _ _ | assumption | apply Below.drew | apply below_drewN | (refine Below.alloc ?_ (by first | omega | (simp; omega) | simp) _) | (refine Below.setCell ?_ (by first | omega | (simp; omega) | simp) _) | (refine Below.trans ?_ (Below.mono (by assumption) (by first | omega | (simp; omega) | simp))))))).mono HBr.out.size)⟩
          case measure => simp [intOf]; omega
  · have hE : levelE (f.fea wl) L raw = aloneE (f.fea wl) L := by unfold levelE; rw [if_pos ha]
    have hV : levelV (f.fea wl) L raw = 0 := by unfold levelV; rw [hE, if_pos ha]
    rw [hE, hV]
    generalize aloneE (f.fea wl) L = q at *
    have g1 : (q == 0) = false := by simpa using ha
    have g2 : (q != 0) = true := by simpa using ha
    obtain ⟨at_, bits, co, fi, cu, ho, lo, hi, sn, A, n, c⟩ := f
    have HAl := Lib.hid (show ∀ w', FW w' ⟨at_, bits, co, fi, cu, ho, lo, hi, sn, A, n, c⟩ wl → InN w' A' n' H L → Calls Tryz.prog 52 #[.agg #[.int .i64 at_, .int .i64 bits, .int .i64 co, .int .i64 fi, .int .i64 cu, .int .i64 ho, .int .i64 lo, .int .i64 hi, .bool sn, .slice A n c], .slice A' n' c'] w' fun e w'' => e = .returned (.int .i64 q) ∧ Below w'.heap.size w' w'' from HAl0.out)
    show Calls Tryz.prog 26 #[.agg #[.int .i64 at_, .int .i64 bits, .int .i64 co, .int .i64 fi, .int .i64 cu, .int .i64 ho, .int .i64 lo, .int .i64 hi, .bool sn, .slice A n c], .slice A' n' c', .int .i64 raw] w fun e w' => e = .returned (.tuple #[.int .i64 0, .int .i64 q]) ∧ Below w.heap.size w w'
    obtain ⟨W, hW⟩ : ∃ W, W = w.alloc (.cells #[.int .i64 at_, .int .i64 bits, .int .i64 co, .int .i64 fi, .int .i64 cu, .int .i64 ho, .int .i64 lo, .int .i64 hi, .bool sn, .slice A n c] 24) := ⟨_, rfl⟩
    obtain ⟨hB0, hK⟩ := fbox at_ bits co fi cu ho lo hi sn A n c w W hW
    have HK := Lib.hid hK
    have HW := Lib.hid hW
    have HB0 := Lib.hid hB0
    have hB := Below.refl W.heap.size W
    obtain ⟨c0, c1, c2, c3, c4, c5, c6, c7, c8, c9⟩ := hK W hB
    clear hW hB0 hK
    have HL := Lib.hid (hw.below HB0.out)
    have HL2 := Lib.hid (hl.below HB0.out)
    clear HAl0 hE hV ha hw hl hm hn
    go_enter Tryz.func26, Tryz.ntmps26
    go_wp2_with fail
    rw [← HW.out]
    refine (HAl.out _ (HL.out.below hB) (HL2.out.below hB)).mono ?_
    rintro e wk ⟨rfl, hb⟩
    replace hB := hB.trans (hb.mono hB.size)
    clear hb
    obtain ⟨c0, c1, c2, c3, c4, c5, c6, c7, c8, c9⟩ := HK.out _ hB
    go_wp2_with fail
    go_ret2
    exact ⟨rfl, HB0.out.trans (hB.mono HB0.out.size)⟩
end Go.Proofs.YtpinmgoeapakdaaGreatDoor
