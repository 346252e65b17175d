/- Lemmas and contracts of functions, joined for the claim: PrRefSlot, PrBytes, PrAwake. -/
import Derived.Test.YtpinmgoeapakdaaGreatDoorGProC
import Derived.Test.YtpinmgoeapakdaaGreatDoorGCurveC
import Derived.Test.YtpinmgoeapakdaaGreatDoorGLevB
namespace Go.Proofs.YtpinmgoeapakdaaGreatDoor
open Go.RowKit

end Go.Proofs.YtpinmgoeapakdaaGreatDoor

namespace Go.Proofs.YtpinmgoeapakdaaGreatDoor
open Go.RowKit

theorem Is.lit (w : World) (l : List Int) (t : TypeId) (b : Nat) (hb : b = w.heap.size) : Is (w.alloc (.cells (iv l).toArray t)) (some ⟨b, 0, none⟩) l.length l := by
  subst hb
  refine ⟨rfl, by simp [iv], fun _ => ⟨w.heap.size, 0, rfl, by simp, fun j u hu => ?_⟩⟩
  rw [Nat.zero_add, World.cell?_alloc_new]
  simpa using hu
theorem bytes_range {f : Fea} {raw : Int} (h : bareE f = 0) (h0 : ¬ (raw < f.lo ∨ f.hi < raw)) : 0 ≤ raw ∧ raw ≤ 65535 ∧ (f.bits = 8 ∨ f.bits = 16) := by
  obtain ⟨hb, -, h1, -, h3, -⟩ := bare_ok h
  have := topV_le f.bits
  omega
set_option maxHeartbeats 4000000 in
theorem pbytes_any (f : FC) (wl : List Slt) (raw : Int) (w : World) (hw : FW w f wl) :
    Calls Tryz.prog 27 #[f.val, .int .i64 raw] w fun e w' => ∃ A2 n2 c2, e = .returned (.tuple #[.slice A2 n2 c2, .int .i64 (bytesE (f.fea wl) raw)]) ∧ Is w' A2 n2 (bytesV (f.fea wl) raw) ∧ Below w.heap.size w w' := by
  have HB1 := Lib.hid (fun w hw => pbare_any f wl w hw)
  have HRn := Lib.hid (fun h h0 => bytes_range (f := f.fea wl) (raw := raw) h h0)
  obtain ⟨q, hq0⟩ : ∃ q, bareE (f.fea wl) = q := ⟨_, rfl⟩
  have hE : bytesE (f.fea wl) raw = if q ≠ 0 then q else if raw < f.lo ∨ f.hi < raw then 2 else 0 := by unfold bytesE; rw [hq0]; rfl
  have hV : bytesV (f.fea wl) raw = if bytesE (f.fea wl) raw ≠ 0 then [] else if f.bits = 8 then [raw] else [raw / 256, raw % 256] := rfl
  rw [hq0] at HB1 HRn
  rw [hV, hE]
  clear hV hE hq0
  obtain ⟨at_, bits, co, fi, cu, ho, lo, hi, sn, A, n, c⟩ := f
  have HBa := Lib.hid (show ∀ w', FW w' ⟨at_, bits, co, fi, cu, ho, lo, hi, sn, A, n, c⟩ wl → Calls Tryz.prog 54 #[.agg #[.int .i64 at_, .int .i64 bits, .int .i64 co, .int .i64 fi, .int .i64 cu, .int .i64 ho, .int .i64 lo, .int .i64 hi, .bool sn, .slice A n c]] w' fun e w'' => e = .returned (.int .i64 q) ∧ Below w'.heap.size w' w'' from HB1.out)
  show Calls Tryz.prog 27 #[.agg #[.int .i64 at_, .int .i64 bits, .int .i64 co, .int .i64 fi, .int .i64 cu, .int .i64 ho, .int .i64 lo, .int .i64 hi, .bool sn, .slice A n c], .int .i64 raw] w fun e w' => ∃ A2 n2 c2, e = .returned (.tuple #[.slice A2 n2 c2, .int .i64 (if q ≠ 0 then q else if raw < lo ∨ hi < raw then 2 else 0)]) ∧ Is w' A2 n2 (if (if q ≠ 0 then q else if raw < lo ∨ hi < raw then 2 else 0) ≠ 0 then [] else if bits = 8 then [raw] else [raw / 256, raw % 256]) ∧ Below w.heap.size w w'
  have HRg := Lib.hid (show q = 0 → ¬ (raw < lo ∨ hi < raw) → 0 ≤ raw ∧ raw ≤ 65535 ∧ (bits = 8 ∨ bits = 16) from fun h h0 => HRn.out h h0)
  obtain ⟨W, hW⟩ : ∃ W, W = w.alloc (.cells #[.int .i64 at_, .int .i64 bits, .int .i64 co, .int .i64 fi, .int .i64 cu, .int .i64 ho, .int .i64 lo, .int .i64 hi, .bool sn, .slice A n c] 24) := ⟨_, rfl⟩
  obtain ⟨hB0, hK⟩ := fbox at_ bits co fi cu ho lo hi sn A n c w W hW
  have HK := Lib.hid hK
  have HW := Lib.hid hW
  have HB0 := Lib.hid hB0
  have hB := Below.refl W.heap.size W
  obtain ⟨c0, c1, c2, c3, c4, c5, c6, c7, c8, c9⟩ := hK W hB
  clear hW hB0 hK
  have HL := Lib.hid (hw.below HB0.out)
  clear HB1 HRn hw
  by_cases hq : q = 0
  · have HR2 := Lib.hid (HRg.out hq)
    subst hq
    rw [if_neg (show ¬ ((0 : Int) ≠ 0) from fun h => h rfl)]
    clear HRg
    by_cases h1 : raw < lo
    · rw [if_pos (.inl h1)]
      rw [if_pos (show (2 : Int) ≠ 0 by decide)]
      go_enter Tryz.func27, Tryz.ntmps27
      go_wp2_with fail
      rw [← HW.out]
      refine (HBa.out _ (HL.out.below hB)).mono ?_
      rintro e wk ⟨rfl, hb⟩
      replace hB := hB.trans (hb.mono hB.size)
      clear hb
      obtain ⟨c0, c1, c2, c3, c4, c5, c6, c7, c8, c9⟩ := HK.out _ hB
      go_wp2_with fail
      go_ret2
      exact ⟨_, _, _, rfl, ⟨rfl, Sl.nil _ _ _⟩, HB0.out.trans (hB.mono HB0.out.size)⟩
    · by_cases h2 : hi < raw
      · rw [if_pos (.inr h2)]
        rw [if_pos (show (2 : Int) ≠ 0 by decide)]
        go_enter Tryz.func27, Tryz.ntmps27
        go_wp2_with fail
        rw [← HW.out]
        refine (HBa.out _ (HL.out.below hB)).mono ?_
        rintro e wk ⟨rfl, hb⟩
        replace hB := hB.trans (hb.mono hB.size)
        clear hb
        obtain ⟨c0, c1, c2, c3, c4, c5, c6, c7, c8, c9⟩ := HK.out _ hB
        go_wp2_with fail
        go_ret2
        exact ⟨_, _, _, rfl, ⟨rfl, Sl.nil _ _ _⟩, HB0.out.trans (hB.mono HB0.out.size)⟩
      · have hno : ¬ (raw < lo ∨ hi < raw) := by rintro (h | h); exact h1 h; exact h2 h
        rw [if_neg hno, if_neg (show ¬ ((0 : Int) ≠ 0) from fun h => h rfl)]
        obtain ⟨r0, r1, rfl | rfl⟩ := HR2.out hno
        · rw [if_pos rfl]
          clear HR2 hno
          go_enter Tryz.func27, Tryz.ntmps27
          go_wp2_with fail
          rw [← HW.out]
          refine (HBa.out _ (HL.out.below hB)).mono ?_
          rintro e wk ⟨rfl, hb⟩
          replace hB := hB.trans (hb.mono hB.size)
          clear hb
          obtain ⟨c0, c1, c2, c3, c4, c5, c6, c7, c8, c9⟩ := HK.out _ hB
          go_wp2_with fail
          go_ret2
          exact ⟨_, _, _, rfl, Is.lit wk [raw] 3 _ rfl, HB0.out.trans ((hB.alloc hB.size _).mono HB0.out.size)⟩
        · rw [if_neg (by decide)]
          clear HR2 hno
          go_enter Tryz.func27, Tryz.ntmps27
          go_wp2_with fail
          rw [← HW.out]
          refine (HBa.out _ (HL.out.below hB)).mono ?_
          rintro e wk ⟨rfl, hb⟩
          replace hB := hB.trans (hb.mono hB.size)
          clear hb
          obtain ⟨c0, c1, c2, c3, c4, c5, c6, c7, c8, c9⟩ := HK.out _ hB
          have hb8 := and255 r0 r1
          go_wp2_with fail
          go_ret2
          exact ⟨_, _, _, rfl, Is.lit wk [raw / 256, raw % 256] 3 _ rfl, HB0.out.trans ((hB.alloc hB.size _).mono HB0.out.size)⟩
  · rw [if_pos hq, if_pos hq]
    have g1 : (q == 0) = false := by simpa using hq
    have g2 : (q != 0) = true := by simpa using hq
    clear hq HRg
    go_enter Tryz.func27, Tryz.ntmps27
    go_wp2_with fail
    rw [← HW.out]
    refine (HBa.out _ (HL.out.below hB)).mono ?_
    rintro e wk ⟨rfl, hb⟩
    replace hB := hB.trans (hb.mono hB.size)
    clear hb
    obtain ⟨c0, c1, c2, c3, c4, c5, c6, c7, c8, c9⟩ := HK.out _ hB
    go_wp2_with fail
    go_ret2
    exact ⟨_, _, _, rfl, ⟨rfl, Sl.nil _ _ _⟩, HB0.out.trans (hB.mono HB0.out.size)⟩
end Go.Proofs.YtpinmgoeapakdaaGreatDoor

namespace Go.Proofs.YtpinmgoeapakdaaGreatDoor
open Go.RowKit

theorem ptake_succ {α : Type} {l m : List α} {k : Nat} (h : l.take k = m.take k) (hl : k < l.length) (hm : k < m.length) (e : l[k] = m[k]) : l.take (k + 1) = m.take (k + 1) := by
  rw [List.take_succ_eq_append_getElem hl, List.take_succ_eq_append_getElem hm, h, e]
theorem pne_at {α : Type} {l m : List α} {k : Nat} (hl : k < l.length) (hm : k < m.length) (e : ¬ l[k] = m[k]) : ¬ l = m := by
  intro h; subst h; exact e rfl

set_option maxHeartbeats 1000000 in
theorem peqI_any (A : Option Addr) (n c : Nat) (l : List Int) (B : Option Addr) (n' c' : Nat) (m : List Int) (w : World) (hl : Is w A n l) (hm : Is w B n' m) (hn : n ≤ 1000000000) (hn' : n' ≤ 1000000000) :
    Calls Tryz.prog 29 #[.slice A n c, .slice B n' c'] w fun e w' => e = .returned (.bool (decide (l = m))) ∧ Below w.heap.size w w' := by
  obtain ⟨rfl, _⟩ := id hl
  obtain ⟨rfl, _⟩ := id hm
  by_cases hlen : l.length = m.length
  · have hb0 : ((l.length : Int) != (m.length : Int)) = false := by simp [hlen]
    have Hlen := Lib.hid hlen
    clear hlen
    go_enter Tryz.func29, Tryz.ntmps29
    go_wp2
    go_loopw [13] (fun i wr => ∃ k : Nat, k ≤ l.length ∧ i = .int .i64 k ∧ Below w.heap.size w wr ∧ l.take k = m.take k) (fun i _ => l.length - (intOf i).toNat)
    case atStart => exact ⟨0, Nat.zero_le _, rfl, Below.refl _ _, rfl⟩
    case round =>
      obtain ⟨k, hk, rfl, hb, heq⟩ := hrel
      have Heq := Lib.hid heq
      clear heq
      by_cases hlt : k < l.length
      · have hlt' : k < m.length := by have := Hlen.out; omega
        obtain ⟨b, o, rfl, hbl, hc1⟩ := (hl.below hb).at1 hlt
        obtain ⟨b', o', rfl, hbl', hd1⟩ := (hm.below hb).at1 hlt'
        by_cases hxy : l[k] = m[k]
        · have hnext := Lib.hid (ptake_succ Heq.out hlt hlt' hxy)
          rw [← hxy] at hd1
          clear hxy
          generalize l[k] = x at *
          go_wp2
          try (go_quiet (fail); go_wp2)
          go_roundw
          case rel => exact ⟨k + 1, by omega, by go_num, by (repeat (first | exact Below.refl _ _ | assumption | apply Below.drew | apply below_drewN | (refine Below.alloc ?_ (by first | omega | (simp; omega) | simp) _) | (refine Below.setCell ?_ (by first | omega | (simp; omega) | simp) _) | (refine Below.trans ?_ (Below.mono (by assumption) (by first | omega | (simp; omega) | simp))))), hnext.out⟩
          case measure => simp [intOf]; omega
        · have hne := Lib.hid (pne_at hlt hlt' hxy)
          generalize l[k] = x at *
          generalize m[k] = y at *
          have hx1 : (x != y) = true := by simpa using hxy
          have hx2 : (x == y) = false := by simpa using hxy
          clear hxy
          go_wp2
          try (go_quiet (fail); go_wp2)
          go_ret
          exact ⟨ret_b (by simpa using hne.out), by (repeat (first | exact Below.refl _ _ | assumption | apply Below.drew | apply below_drewN | (refine Below.alloc ?_ (by first | omega | (simp; omega) | simp) _) | (refine Below.setCell ?_ (by first | omega | (simp; omega) | simp) _) | (refine Below.trans ?_ (Below.mono (by assumption) (by first | omega | (simp; omega) | simp)))))⟩
      · obtain rfl : k = l.length := by omega
        have he : l = m := by have := Heq.out; rwa [List.take_length, Hlen.out, List.take_length] at this
        have He := Lib.hid he
        clear he
        go_wp2
        go_ret
        exact ⟨ret_b (by simpa using He.out), hb⟩
  · have hb0 : ((l.length : Int) != (m.length : Int)) = true := by simp; omega
    have hne := Lib.hid (show ¬ l = m from fun h => hlen (by rw [h]))
    clear hlen
    go_enter Tryz.func29, Tryz.ntmps29
    go_wp2
    go_ret
    exact ⟨ret_b (by simpa using hne.out), Below.refl _ _⟩

def exWh : List Slt := [⟨⟨#[111, 112, 101, 110]⟩, 0, 999⟩, ⟨⟨#[114, 101, 100]⟩, 1000, 3000⟩]
def exF : Fea := ⟨0, 8, 0, 0, 0, 0, 10, 20, false, exWh⟩
def exG : Fea := ⟨0, 16, 0, 0, 0, 0, 0, 65535, false, []⟩
theorem exF_ok : aloneE exF [] = 0 := by decide +kernel
theorem exG_bytes : bytesE exG 513 = 0 ∧ bytesV exG 513 = [2, 1] := by decide +kernel
theorem exF_slot : slotE exF 2000 = 0 ∧ slotV exF 2000 = ⟨#[114, 101, 100]⟩ ∧ slotE exF 4000 = 6 := by decide +kernel
theorem exF_mid : midE exF ⟨#[114, 101, 100]⟩ = 0 ∧ midV exF ⟨#[114, 101, 100]⟩ = 2000 := by decide +kernel
theorem exF_class : classV 13 = 3 ∧ classE 13 = 0 := by decide +kernel
theorem exRaw (z : Int) (h0 : 0 ≤ z) (h1 : z ≤ 99999) : rawE exF [] (sR (z : Rat)) = 0 ∧ rawV exF [] (sR (z : Rat)) = madeR 10 20 straightC (z : Rat) := by
  have e : rawE exF [] (sR (z : Rat)) = 0 := by
    unfold rawE
    rw [exF_ok, if_neg (by decide), sR_list, chkR_fit ((SzR.int (k := 5) (z := z) (by omega) (by decide)).fit (by decide))]
  refine ⟨e, ?_⟩
  unfold rawV
  rw [e, if_neg (by decide), sR_list, valR_rT]
  rfl
theorem exR0 : madeR 10 20 straightC ((0 : Int) : Rat) = 10 := by rw [← raw_made straight_ok (by decide) (by decide)]; decide +kernel
theorem exR3 : madeR 10 20 straightC ((32768 : Int) : Rat) = 15 := by rw [← raw_made straight_ok (by decide) (by decide)]; decide +kernel
theorem exR6 : madeR 10 20 straightC ((65535 : Int) : Rat) = 20 := by rw [← raw_made straight_ok (by decide) (by decide)]; decide +kernel
theorem exR7 : madeR 10 20 straightC ((70000 : Int) : Rat) = 20 := by
  refine Eq.trans ?_ exR6
  unfold madeR
  rw [show clampR ((70000 : Int) : Rat) = clampR ((65535 : Int) : Rat) by decide +kernel]
theorem m0 : sR ((0 : Int) : Rat) = ⟨#[48]⟩ := zero_txt.symm
theorem m32768 : sR ((32768 : Int) : Rat) = ⟨#[51, 50, 55, 54, 56]⟩ := num_text _ _ (by rw [digs5 32768 (by decide) (by decide)]; rfl)
theorem m65535 : sR ((65535 : Int) : Rat) = ⟨#[54, 53, 53, 51, 53]⟩ := num_text _ _ (by rw [digs5 65535 (by decide) (by decide)]; rfl)
theorem m70000 : sR ((70000 : Int) : Rat) = ⟨#[55, 48, 48, 48, 48]⟩ := num_text _ _ (by rw [digs5 70000 (by decide) (by decide)]; rfl)
set_option maxHeartbeats 1000000 in
theorem lwheel_any (w : World) : Calls Tryz.prog 42 #[] w fun e w' => ∃ A, e = .returned (.slice A 2 2) ∧ shS.In w' A 2 exWh ∧ Below w.heap.size w w' := by
  go_enter Tryz.func42, Tryz.ntmps42
  go_wp2_with fail
  go_ret
  exact ⟨_, rfl, Sh.In.fresh (S := shS) w exWh 49 _ rfl, (Below.refl _ w).alloc (Nat.le_refl _) _⟩

theorem abox (A : Option Addr) (w1 W : World) (hW : W = (w1.alloc (.cells #[.int .i64 0, .int .i64 8, .int .i64 0, .int .i64 0, .int .i64 0, .int .i64 0, .int .i64 10, .int .i64 20, .bool false, .slice A 2 2] 24)).alloc (.cells #[.string ⟨#[48]⟩, .int .i64 10, .string ⟨#[51, 50, 55, 54, 56]⟩, .int .i64 15, .string ⟨#[54, 53, 53, 51, 53]⟩, .int .i64 20, .string ⟨#[55, 48, 48, 48, 48]⟩, .int .i64 20] 84)) :
    Below w1.heap.size w1 W ∧ W.heap.size = w1.heap.size + 1 + 1 ∧ ∀ w', Below W.heap.size W w' → (w'.cell? ⟨w1.heap.size, 0, none⟩ = some (.int .i64 0) ∧ w'.cell? ⟨w1.heap.size, 1, none⟩ = some (.int .i64 8) ∧ w'.cell? ⟨w1.heap.size, 2, none⟩ = some (.int .i64 0) ∧ w'.cell? ⟨w1.heap.size, 3, none⟩ = some (.int .i64 0) ∧ w'.cell? ⟨w1.heap.size, 4, none⟩ = some (.int .i64 0) ∧ w'.cell? ⟨w1.heap.size, 5, none⟩ = some (.int .i64 0) ∧ w'.cell? ⟨w1.heap.size, 6, none⟩ = some (.int .i64 10) ∧ w'.cell? ⟨w1.heap.size, 7, none⟩ = some (.int .i64 20) ∧ w'.cell? ⟨w1.heap.size, 8, none⟩ = some (.bool false) ∧ w'.cell? ⟨w1.heap.size, 9, none⟩ = some (.slice A 2 2)) ∧ (w'.cell? ⟨w1.heap.size + 1, 0, none⟩ = some (.string ⟨#[48]⟩) ∧ w'.cell? ⟨w1.heap.size + 1, 1, none⟩ = some (.int .i64 10) ∧ w'.cell? ⟨w1.heap.size + 1, 2, none⟩ = some (.string ⟨#[51, 50, 55, 54, 56]⟩) ∧ w'.cell? ⟨w1.heap.size + 1, 3, none⟩ = some (.int .i64 15) ∧ w'.cell? ⟨w1.heap.size + 1, 4, none⟩ = some (.string ⟨#[54, 53, 53, 51, 53]⟩) ∧ w'.cell? ⟨w1.heap.size + 1, 5, none⟩ = some (.int .i64 20) ∧ w'.cell? ⟨w1.heap.size + 1, 6, none⟩ = some (.string ⟨#[55, 48, 48, 48, 48]⟩) ∧ w'.cell? ⟨w1.heap.size + 1, 7, none⟩ = some (.int .i64 20)) := by
  obtain ⟨W1, hW1⟩ : ∃ W1, W1 = w1.alloc (.cells #[.int .i64 0, .int .i64 8, .int .i64 0, .int .i64 0, .int .i64 0, .int .i64 0, .int .i64 10, .int .i64 20, .bool false, .slice A 2 2] 24) := ⟨_, rfl⟩
  rw [← hW1] at hW
  obtain ⟨b1, k1⟩ := fbox 0 8 0 0 0 0 10 20 false A 2 2 w1 W1 hW1
  have hs1 : W1.heap.size = w1.heap.size + 1 := by rw [hW1]; simp
  have b2 : Below W1.heap.size W1 W := by rw [hW]; exact (Below.refl _ _).alloc (Nat.le_refl _) _
  have hsW : W.heap.size = W1.heap.size + 1 := by rw [hW]; simp
  refine ⟨b1.trans (b2.mono b1.size), by omega, fun w' h => ⟨k1 w' (b2.trans (h.mono b2.size)), ?_⟩⟩
  have key : ∀ (j : Nat) (u : Value), (#[.string ⟨#[48]⟩, .int .i64 10, .string ⟨#[51, 50, 55, 54, 56]⟩, .int .i64 15, .string ⟨#[54, 53, 53, 51, 53]⟩, .int .i64 20, .string ⟨#[55, 48, 48, 48, 48]⟩, .int .i64 20] : Array Value)[j]? = some u → w'.cell? ⟨w1.heap.size + 1, j, none⟩ = some u := fun j u hu => by
    rw [← hs1]
    refine (h.cell (p := ⟨W1.heap.size, j, none⟩) (show W1.heap.size < W.heap.size by omega)).trans ?_
    rw [hW, World.cell?_alloc_new]; exact hu
  exact ⟨key 0 _ rfl, key 1 _ rfl, key 2 _ rfl, key 3 _ rfl, key 4 _ rfl, key 5 _ rfl, key 6 _ rfl, key 7 _ rfl⟩
set_option maxRecDepth 100000 in
set_option maxHeartbeats 8000000 in
theorem pawake_any (w : World) (ht : Tab w) (hr : Rng w) : Calls Tryz.prog 14 #[] w fun e w' => e = .returned (.bool true) ∧ Below w.heap.size w w' := by
  have hB := Below.refl w.heap.size w
  have HT := Lib.hid ht
  have HRg := Lib.hid hr
  have HWl := Lib.hid (fun w => lwheel_any w)
  have HFW := Lib.hid (fun w A (hl : shS.In w A 2 exWh) => show FW w ⟨0, 8, 0, 0, 0, 0, 10, 20, false, A, 2, 2⟩ exWh from ⟨hl, ⟨Nat.le_refl 2, show (2 : Nat) ≤ 9223372036854775807 by decide⟩, by decide⟩)
  have HRaw := Lib.hid (fun w A (hl : shS.In w A 2 exWh) ht hr (z : Int) (h0 : 0 ≤ z) (h1 : z ≤ 99999) => show Calls Tryz.prog 15 #[.agg #[.int .i64 0, .int .i64 8, .int .i64 0, .int .i64 0, .int .i64 0, .int .i64 0, .int .i64 10, .int .i64 20, .bool false, .slice A 2 2], .slice none 0 0, .string (sR (z : Rat))] w fun e w' => e = .returned (.tuple #[.int .i64 (madeR 10 20 straightC (z : Rat)), .int .i64 0]) ∧ Below w.heap.size w w' from by
    have := praw_any ⟨0, 8, 0, 0, 0, 0, 10, 20, false, A, 2, 2⟩ exWh none 0 0 [] [] (sR (z : Rat)) w (HFW.out w A hl) ⟨Sh.In.nil _ _, rfl, fun i h => absurd h (Nat.not_lt_zero _)⟩ (fun h hh => by cases hh) (by decide) (Nat.le_trans (SzR.int (k := 5) (z := z) (by omega) (by decide)).len (by decide)) ht hr
    obtain ⟨e1, e2⟩ := exRaw z h0 h1
    rw [show (FC.fea ⟨0, 8, 0, 0, 0, 0, 10, 20, false, A, 2, 2⟩ exWh) = exF from rfl, e1, e2] at this
    exact this)
  have HR0 := Lib.hid (fun w A hl ht hr => HRaw.out w A hl ht hr 0 (by decide) (by decide))
  rw [m0, exR0] at HR0
  have HR1 := Lib.hid (fun w A hl ht hr => HRaw.out w A hl ht hr 32768 (by decide) (by decide))
  rw [m32768, exR3] at HR1
  have HR2 := Lib.hid (fun w A hl ht hr => HRaw.out w A hl ht hr 65535 (by decide) (by decide))
  rw [m65535, exR6] at HR2
  have HR3 := Lib.hid (fun w A hl ht hr => HRaw.out w A hl ht hr 70000 (by decide) (by decide))
  rw [m70000, exR7] at HR3
  have HBy := Lib.hid (fun w => show Calls Tryz.prog 27 #[.agg #[.int .i64 0, .int .i64 16, .int .i64 0, .int .i64 0, .int .i64 0, .int .i64 0, .int .i64 0, .int .i64 65535, .bool false, .slice none 0 0], .int .i64 513] w fun e w' => ∃ A2 n2 c2, e = .returned (.tuple #[.slice A2 n2 c2, .int .i64 0]) ∧ Is w' A2 n2 [2, 1] ∧ Below w.heap.size w w' from by
    have := pbytes_any ⟨0, 16, 0, 0, 0, 0, 0, 65535, false, none, 0, 0⟩ [] 513 w ⟨Sh.In.nil _ _, by decide, by decide⟩
    rw [show (FC.fea ⟨0, 16, 0, 0, 0, 0, 0, 65535, false, none, 0, 0⟩ []) = exG from rfl, exG_bytes.1, exG_bytes.2] at this
    exact this)
  have HSa := Lib.hid (fun w A (hl : shS.In w A 2 exWh) => show Calls Tryz.prog 17 #[.agg #[.int .i64 0, .int .i64 8, .int .i64 0, .int .i64 0, .int .i64 0, .int .i64 0, .int .i64 10, .int .i64 20, .bool false, .slice A 2 2], .int .i64 2000] w fun e w' => e = .returned (.tuple #[.string ⟨#[114, 101, 100]⟩, .int .i64 0]) ∧ Below w.heap.size w w' from by
    have := pSlot_any ⟨0, 8, 0, 0, 0, 0, 10, 20, false, A, 2, 2⟩ exWh 2000 w (HFW.out w A hl)
    rw [show (FC.fea ⟨0, 8, 0, 0, 0, 0, 10, 20, false, A, 2, 2⟩ exWh) = exF from rfl, exF_slot.1, exF_slot.2.1] at this
    exact this)
  have HSb := Lib.hid (fun w A (hl : shS.In w A 2 exWh) => show Calls Tryz.prog 17 #[.agg #[.int .i64 0, .int .i64 8, .int .i64 0, .int .i64 0, .int .i64 0, .int .i64 0, .int .i64 10, .int .i64 20, .bool false, .slice A 2 2], .int .i64 4000] w fun e w' => (∃ s, e = .returned (.tuple #[.string s, .int .i64 6])) ∧ Below w.heap.size w w' from by
    have := pSlot_any ⟨0, 8, 0, 0, 0, 0, 10, 20, false, A, 2, 2⟩ exWh 4000 w (HFW.out w A hl)
    rw [show (FC.fea ⟨0, 8, 0, 0, 0, 0, 10, 20, false, A, 2, 2⟩ exWh) = exF from rfl, exF_slot.2.2] at this
    exact this.mono fun e w' ⟨h1, h2⟩ => ⟨⟨_, h1⟩, h2⟩)
  have HMi := Lib.hid (fun w A (hl : shS.In w A 2 exWh) => show Calls Tryz.prog 19 #[.agg #[.int .i64 0, .int .i64 8, .int .i64 0, .int .i64 0, .int .i64 0, .int .i64 0, .int .i64 10, .int .i64 20, .bool false, .slice A 2 2], .string ⟨#[114, 101, 100]⟩] w fun e w' => e = .returned (.tuple #[.int .i64 2000, .int .i64 0]) ∧ Below w.heap.size w w' from by
    have := pMiddle_any ⟨0, 8, 0, 0, 0, 0, 10, 20, false, A, 2, 2⟩ exWh ⟨#[114, 101, 100]⟩ w (HFW.out w A hl)
    rw [show (FC.fea ⟨0, 8, 0, 0, 0, 0, 10, 20, false, A, 2, 2⟩ exWh) = exF from rfl, exF_mid.1, exF_mid.2] at this
    exact this)
  have HCl := Lib.hid (fun w => pclass_any 13 w)
  rw [exF_class.1, exF_class.2] at HCl
  have HEq := Lib.hid (fun A c B d w (hl : Is w A 2 [2, 1]) (hm : Is w B 2 [2, 1]) => show Calls Tryz.prog 29 #[.slice A 2 c, .slice B 2 d] w fun e w' => e = .returned (.bool true) ∧ Below w.heap.size w w' from peqI_any A 2 c [2, 1] B 2 d [2, 1] w hl hm (by decide) (by decide))
  clear HRaw HFW ht hr
  go_enter Tryz.func14, Tryz.ntmps14
  go_wp2_with fail
  refine (HWl.out _).mono ?_
  rintro e w1 ⟨A, rfl, hl1, hb⟩
  replace hB := hB.trans (hb.mono hB.size)
  clear hb
  obtain ⟨W, hW⟩ : ∃ W, W = (w1.alloc (.cells #[.int .i64 0, .int .i64 8, .int .i64 0, .int .i64 0, .int .i64 0, .int .i64 0, .int .i64 10, .int .i64 20, .bool false, .slice A 2 2] 24)).alloc (.cells #[.string ⟨#[48]⟩, .int .i64 10, .string ⟨#[51, 50, 55, 54, 56]⟩, .int .i64 15, .string ⟨#[54, 53, 53, 51, 53]⟩, .int .i64 20, .string ⟨#[55, 48, 48, 48, 48]⟩, .int .i64 20] 84) := ⟨_, rfl⟩
  obtain ⟨hB1, hsW, hK⟩ := abox A w1 W hW
  have HB0 := Lib.hid (hB.trans (hB1.mono hB.size))
  have HK := Lib.hid hK
  have HW := Lib.hid hW
  have HsW := Lib.hid hsW
  have HL := Lib.hid (hl1.below hB1)
  replace HT := Lib.hid (HT.out.below HB0.out)
  replace HRg := Lib.hid (HRg.out.below HB0.out)
  clear hB hl1 hW hB1 hsW hK
  go_wp2_with fail
  rw [← HW.out]
  have hw1 : w1.heap.size + 1 < W.heap.size := by have := HsW.out; omega
  go_loopw [24] (fun iv wr => ∃ k : Nat, k ≤ 4 ∧ iv = .int .i64 k ∧ Below W.heap.size W wr) (fun iv _ => 4 - (intOf iv).toNat)
  case atStart => exact ⟨0, by decide, rfl, Below.refl _ _⟩
  case round =>
    obtain ⟨k, hk, rfl, hBr⟩ := hrel
    obtain ⟨⟨c0, c1, c2, c3, c4, c5, c6, c7, c8, c9⟩, l0, l1, l2, l3, l4, l5, l6, l7⟩ := HK.out _ hBr
    have hw2 : w1.heap.size + 1 < wr.heap.size := Nat.lt_of_lt_of_le hw1 hBr.size
    have hw3 : w1.heap.size < wr.heap.size := by omega
    have HLr := Lib.hid (HL.out.below hBr)
    have HTr := Lib.hid (HT.out.below hBr)
    have HRr := Lib.hid (HRg.out.below hBr)
    have HBx := Lib.hid (fun o => (Below.refl wr.heap.size wr).alloc (Nat.le_refl _) o)
    match k, hk with
    | 0, _ =>
      go_wp2_with (go_at_call 15; refine (HR0.out _ _ (HLr.out.below (HBx.out _)) (HTr.out.below (HBx.out _)) (HRr.out.below (HBx.out _))).mono ?_; rintro e wk ⟨rfl, hb⟩; have q1 := (hb.cell (p := ⟨wr.heap.size, 1, none⟩) (by simp)).trans (show _ = some (Value.int IntKind.i64 10) by rw [World.cell?_alloc_new]; rfl); replace hBr := hBr.trans (((HBx.out _).trans (hb.mono (by simp))).mono hBr.size); clear hb)
      go_roundw
      case rel => exact ⟨0 + 1, by omega, by go_num, hBr⟩
      case measure => simp [intOf]
    | 1, _ =>
      go_wp2_with (go_at_call 15; refine (HR1.out _ _ (HLr.out.below (HBx.out _)) (HTr.out.below (HBx.out _)) (HRr.out.below (HBx.out _))).mono ?_; rintro e wk ⟨rfl, hb⟩; have q1 := (hb.cell (p := ⟨wr.heap.size, 1, none⟩) (by simp)).trans (show _ = some (Value.int IntKind.i64 15) by rw [World.cell?_alloc_new]; rfl); replace hBr := hBr.trans (((HBx.out _).trans (hb.mono (by simp))).mono hBr.size); clear hb)
      go_roundw
      case rel => exact ⟨1 + 1, by omega, by go_num, hBr⟩
      case measure => simp [intOf]
    | 2, _ =>
      go_wp2_with (go_at_call 15; refine (HR2.out _ _ (HLr.out.below (HBx.out _)) (HTr.out.below (HBx.out _)) (HRr.out.below (HBx.out _))).mono ?_; rintro e wk ⟨rfl, hb⟩; have q1 := (hb.cell (p := ⟨wr.heap.size, 1, none⟩) (by simp)).trans (show _ = some (Value.int IntKind.i64 20) by rw [World.cell?_alloc_new]; rfl); replace hBr := hBr.trans (((HBx.out _).trans (hb.mono (by simp))).mono hBr.size); clear hb)
      go_roundw
      case rel => exact ⟨2 + 1, by omega, by go_num, hBr⟩
      case measure => simp [intOf]
    | 3, _ =>
      go_wp2_with (go_at_call 15; refine (HR3.out _ _ (HLr.out.below (HBx.out _)) (HTr.out.below (HBx.out _)) (HRr.out.below (HBx.out _))).mono ?_; rintro e wk ⟨rfl, hb⟩; have q1 := (hb.cell (p := ⟨wr.heap.size, 1, none⟩) (by simp)).trans (show _ = some (Value.int IntKind.i64 20) by rw [World.cell?_alloc_new]; rfl); replace hBr := hBr.trans (((HBx.out _).trans (hb.mono (by simp))).mono hBr.size); clear hb)
      go_roundw
      case rel => exact ⟨3 + 1, by omega, by go_num, hBr⟩
      case measure => simp [intOf]
    | 4, _ =>
      have hB := hBr
      clear l0 l1 l2 l3 l4 l5 l6 l7 hw2 hw3 hBr HLr HTr HRr HBx
      go_wp2_with fail
      refine (HBy.out _).mono ?_
      rintro e wk ⟨A2, n2, d2, rfl, hi2, hb⟩
      replace hB := hB.trans (hb.mono hB.size)
      clear hb
      obtain ⟨⟨c0, c1, c2, c3, c4, c5, c6, c7, c8, c9⟩, -⟩ := HK.out _ hB
      go_wp2_with fail
      refine (HSa.out _ _ (HL.out.below hB)).mono ?_
      rintro e wk ⟨rfl, hb⟩
      have hi2 := hi2.below hb
      replace hB := hB.trans (hb.mono hB.size)
      clear hb
      obtain ⟨⟨c0, c1, c2, c3, c4, c5, c6, c7, c8, c9⟩, -⟩ := HK.out _ hB
      go_wp2_with fail
      refine (HMi.out _ _ (HL.out.below hB)).mono ?_
      rintro e wk ⟨rfl, hb⟩
      have hi2 := hi2.below hb
      replace hB := hB.trans (hb.mono hB.size)
      clear hb
      obtain ⟨⟨c0, c1, c2, c3, c4, c5, c6, c7, c8, c9⟩, -⟩ := HK.out _ hB
      go_wp2_with fail
      refine (HSb.out _ _ (HL.out.below hB)).mono ?_
      rintro e wk ⟨⟨s4, rfl⟩, hb⟩
      have hi2 := hi2.below hb
      replace hB := hB.trans (hb.mono hB.size)
      clear hb
      obtain ⟨⟨c0, c1, c2, c3, c4, c5, c6, c7, c8, c9⟩, -⟩ := HK.out _ hB
      go_wp2_with fail
      refine (HCl.out _).mono ?_
      rintro e wk ⟨rfl, hb⟩
      have hi2 := hi2.below hb
      replace hB := hB.trans (hb.mono hB.size)
      clear hb
      obtain rfl : n2 = 2 := hi2.1
      have hbx : Below wk.heap.size wk (wk.alloc (.cells #[.int .i64 2, .int .i64 1] 3)) := (Below.refl _ wk).alloc (Nat.le_refl _) _
      go_wp2_with fail
      refine (HEq.out _ _ _ _ _ (hi2.below hbx) (Is.lit wk [2, 1] 3 _ rfl)).mono ?_
      rintro e wz ⟨rfl, hb⟩
      replace hB := hB.trans ((hbx.trans (hb.mono hbx.size)).mono hB.size)
      clear hb hi2 hbx
      go_wp2_with fail
      go_ret
      exact ⟨rfl, HB0.out.trans (hB.mono HB0.out.size)⟩
end Go.Proofs.YtpinmgoeapakdaaGreatDoor
