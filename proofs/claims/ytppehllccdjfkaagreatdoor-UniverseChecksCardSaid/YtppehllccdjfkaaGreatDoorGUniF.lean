/- Lemmas and contracts of functions, joined for the claim: UAPlain, URef13d, UApply1, UApply2, URef13k, UOpen2. -/
import Derived.Test.YtppehllccdjfkaaGreatDoorGUniD
import Derived.Test.YtppehllccdjfkaaGreatDoorGUniC
import Derived.Test.YtppehllccdjfkaaGreatDoorGUniE
import Derived.Test.YtppehllccdjfkaaGreatDoorGOpen
import Derived.Test.YtppehllccdjfkaaGreatDoorGUniA
import Derived.StillTailTactics
import Derived.Deep.RegionHeld3
namespace Go.Proofs.YtppehllccdjfkaaGreatDoor
open Go.RowKit

def Fm.put (f : Fm) (c : Cg) : Fm := if c.un = f.un then ⟨f.un, ⟨(f.sl.data.toList.set (c.ad - 1).toNat (u8v c.by_)).toArray⟩⟩ else f
theorem put_un (f : Fm) (c : Cg) : (f.put c).un = f.un := by
  unfold Fm.put
  by_cases h : c.un = f.un
  · rw [if_pos h]
  · rw [if_neg h]
theorem put_size (f : Fm) (c : Cg) : (f.put c).sl.size = f.sl.size := by
  unfold Fm.put
  by_cases h : c.un = f.un
  · rw [if_pos h]
    show ((f.sl.data.toList.set (c.ad - 1).toNat (u8v c.by_)).toArray).size = f.sl.size
    rw [List.size_toArray, List.length_set, Array.length_toList]
    rfl
  · rw [if_neg h]

def RgL (l : List Fm) : Prop := l.Pairwise (fun f g => f.un < g.un) ∧ ∀ x ∈ l, 1 ≤ x.un ∧ x.un ≤ 8 ∧ x.sl.size = 512
theorem RgL.put {l : List Fm} (h : RgL l) (c : Cg) : RgL (l.map (·.put c)) := by
  refine ⟨?_, fun x hx => ?_⟩
  · rw [List.pairwise_map]
    simp only [put_un]
    exact h.1
  · obtain ⟨y, hy, rfl⟩ := List.mem_map.1 hx
    rw [put_un, put_size]
    exact h.2 y hy
end Go.Proofs.YtppehllccdjfkaaGreatDoor

namespace Go.Proofs.YtppehllccdjfkaaGreatDoor
open Go.RowKit

set_option maxHeartbeats 4000000 in
theorem rplace_any (A : Option Addr) (n c : Nat) (P : List Fm) (u : Int) (w : World) (hl : shFm.In w A n P) (hn : n ≤ 9223372036854775806) :
    Calls Tryz.prog 61 #[.slice A n c, .int .i64 u] w fun e w' => e = .returned (.int .i64 (plI P u)) ∧ Below w.heap.size w w' := by
  obtain ⟨rfl, _⟩ := id hl
  have HL := Lib.hid hl
  obtain ⟨E, hE⟩ : ∃ E, E = plI P u := ⟨_, rfl⟩
  rw [← hE]
  have HE := Lib.hid hE
  clear hl hE
  go_enter Tryz.func61, Tryz.ntmps61
  go_wp2_with fail
  go_loopw [5] (fun iv wr => ∃ k : Nat, k ≤ P.length ∧ iv = .int .i64 k ∧ (∀ j (h : j < P.length), j < k → decide (P[j].un = u) = false) ∧ Below w.heap.size w wr) (fun iv _ => P.length - (intOf iv).toNat)
  case atStart => exact ⟨0, Nat.zero_le _, rfl, fun j _ h => absurd h (Nat.not_lt_zero _), Below.refl _ _⟩
  case round =>
    obtain ⟨k, hk, rfl, hall, hBr⟩ := hrel
    have HAll := Lib.hid hall
    clear hall
    by_cases hlt : k < P.length
    · obtain ⟨b, o, rfl, hbl, hcell⟩ := fm_at HL.out (by omega)
      have p0 := (hBr.cell (p := ⟨b, o + k * 2, none⟩) hbl).trans (hcell k hlt).1
      have hbw : b < wr.heap.size := Nat.lt_of_lt_of_le hbl hBr.size
      have HY := Lib.hid (show decide (P[k].un = u) = true → E = k from fun h => HE.out.trans (idxOf_some hlt (fun i hi => HAll.out i (by omega) hi) h))
      have HN := Lib.hid (put_all (p := fun f : Fm => decide (f.un = u)) hlt HAll.out)
      have i0 : (0 : Int) ≤ (k : Int) := by omega
      have i1 : (k : Int) < (P.length : Int) := by omega
      have w1 : IntKind.i64.wrap ((k : Int) + 1) = (k : Int) + 1 := IntWalk.i64_in _ (by omega)
      clear hcell
      generalize P[k].un = x at *
      have hbq : (x == u) = decide (x = u) := by rw [Bool.eq_iff_iff]; simp
      cases hd : decide (x = u) with
      | true =>
        rw [hd] at hbq
        have hee : E = k := HY.out hd
        subst hee
        clear hd HY HN
        go_wp2_with fail
        go_ret
        exact ⟨rfl, hBr⟩
      | false =>
        rw [hd] at hbq
        have HN1 := Lib.hid (HN.out hd)
        clear hd HY HN
        go_wp2_with fail
        go_roundw
        case rel => exact ⟨k + 1, by omega, by go_num, HN1.out, hBr⟩
        case measure => simp [intOf]; omega
    · obtain rfl : k = P.length := by omega
      have hE0 : E = -1 := HE.out.trans (idxOf_none fun i h => HAll.out i h h)
      subst hE0
      go_wp2_with fail
      go_ret
      exact ⟨rfl, hBr⟩
set_option maxRecDepth 100000 in
set_option maxHeartbeats 8000000 in
theorem rSlot13_any (A : Option Addr) (n c : Nat) (l : List Fm) (u a : Int) (w : World) (hl : shFm.In w A n l) (hn : n ≤ 9223372036854775806) (hs : ∀ x ∈ l, x.sl.size ≤ 9223372036854775807) :
    Calls Tryz.prog 21 #[.slice A n c, .int .i64 u, .int .i64 a] w fun e w' => e = .returned (.tuple #[.int .i64 (slV l u a), .int .i64 (slE l u a)]) ∧ Below w.heap.size w w' := by
  have hB := Below.refl w.heap.size w
  have hV : slV l u a = if slE l u a ≠ 0 then 0 else (((l.getD (plI l u).toNat fm0).sl.data.toList.getD (a - 1).toNat 0).toNat : Int) := rfl
  have hE : slE l u a = if rightE l ≠ 0 then rightE l else if a < 1 ∨ 512 < a then 2 else if plI l u < 0 then 6 else 0 := rfl
  have HRt := Lib.hid (fun w h => rright_any A n c l w h hn hs)
  have HPl := Lib.hid (fun w h => rplace_any A n c l u w h hn)
  have HL := Lib.hid hl
  generalize slV l u a = V at *
  generalize slE l u a = E at *
  clear hs
  by_cases hr : rightE l = 0
  case neg =>
    rw [if_pos hr] at hE
    rw [hE, if_pos hr] at hV
    subst hV hE
    generalize rightE l = q at *
    have g1 : (q == 0) = false := by simpa using hr
    have g2 : (q != 0) = true := by simpa using hr
    clear hl
    go_enter Tryz.func21, Tryz.ntmps21
    go_wp2_with fail
    refine (HRt.out _ (HL.out.below hB)).mono ?_
    rintro e wk ⟨rfl, hb⟩
    replace hB := hB.trans (hb.mono hB.size)
    clear hb
    go_wp2_with fail
    go_ret2
    exact ⟨rfl, hB⟩
  rw [if_neg (fun h => h hr)] at hE
  rw [hr] at HRt
  by_cases h1 : a < 1
  · rw [if_pos (.inl h1)] at hE
    rw [hE, if_pos (by decide)] at hV
    subst hV hE
    clear hl hr
    go_enter Tryz.func21, Tryz.ntmps21
    go_wp2_with fail
    refine (HRt.out _ (HL.out.below hB)).mono ?_
    rintro e wk ⟨rfl, hb⟩
    replace hB := hB.trans (hb.mono hB.size)
    clear hb
    go_wp2_with fail
    go_ret2
    exact ⟨rfl, hB⟩
  by_cases h2 : 512 < a
  · rw [if_pos (.inr h2)] at hE
    rw [hE, if_pos (by decide)] at hV
    subst hV hE
    clear hl hr
    go_enter Tryz.func21, Tryz.ntmps21
    go_wp2_with fail
    refine (HRt.out _ (HL.out.below hB)).mono ?_
    rintro e wk ⟨rfl, hb⟩
    replace hB := hB.trans (hb.mono hB.size)
    clear hb
    go_wp2_with fail
    go_ret2
    exact ⟨rfl, hB⟩
  rw [if_neg (by omega)] at hE
  have hge : -1 ≤ plI l u := idxOf_ge l
  have hlt : plI l u < l.length := idxOf_lt l
  by_cases h3 : plI l u < 0
  · rw [if_pos h3] at hE
    rw [hE, if_pos (by decide)] at hV
    subst hV hE
    generalize plI l u = k at *
    clear hl hr hge hlt
    go_enter Tryz.func21, Tryz.ntmps21
    go_wp2_with fail
    refine (HRt.out _ (HL.out.below hB)).mono ?_
    rintro e wk ⟨rfl, hb⟩
    replace hB := hB.trans (hb.mono hB.size)
    clear hb
    go_wp2_with fail
    refine (HPl.out _ (HL.out.below hB)).mono ?_
    rintro e wk ⟨rfl, hb⟩
    replace hB := hB.trans (hb.mono hB.size)
    clear hb
    go_wp2_with fail
    go_ret2
    exact ⟨rfl, hB⟩
  · rw [if_neg h3] at hE
    rw [hE, if_neg (fun h => h rfl)] at hV
    subst hE
    obtain ⟨k, hk⟩ : ∃ k : Nat, plI l u = k := ⟨(plI l u).toNat, by omega⟩
    have hkl : k < l.length := by omega
    rw [hk, show ((k : Int)).toNat = k by omega, getD_of hkl] at hV
    rw [hk] at HPl
    have hsz := (rg_ok ((frs_all hr).2 k hkl)).2.2.1
    rw [getD_of hkl] at hsz
    obtain ⟨b, o, rfl, hbl, hcell⟩ := fm_at hl (by omega)
    have p1 := (hcell k hkl).2
    obtain rfl : n = l.length := hl.1
    obtain ⟨j, hj⟩ : ∃ j : Nat, (j : Int) = a - 1 := ⟨(a - 1).toNat, by omega⟩
    rw [show (a - 1).toNat = j by omega] at hV
    generalize l[k].sl = s at *
    have hjs : j < s.size := by omega
    rw [getD_of (by simpa using hjs), list_at s hjs] at hV
    obtain ⟨c1, hc1⟩ : ∃ c1, s[j] = c1 := ⟨_, rfl⟩
    rw [hc1] at hV
    subst hV
    have HP1 := Lib.hid p1
    have i0 : (0 : Int) ≤ (k : Int) := by omega
    have i1 : (k : Int) < (l.length : Int) := by omega
    have j0 : (0 : Int) ≤ (j : Int) := by omega
    have j1 : (j : Int) < (s.size : Int) := by omega
    have w1 : IntKind.i64.wrap (a - 1) = (j : Int) := by rw [← hj]; exact IntWalk.i64_in _ (by omega)
    have w2 : IntKind.i64.wrap (c1.toNat : Int) = (c1.toNat : Int) := IntWalk.i64_in _ (by have := c1.toNat_lt; omega)
    clear hl hr hge hlt hcell hk hj h3 p1 hkl hsz
    go_enter Tryz.func21, Tryz.ntmps21
    go_wp2_with fail
    refine (HRt.out _ (HL.out.below hB)).mono ?_
    rintro e wk ⟨rfl, hb⟩
    replace hB := hB.trans (hb.mono hB.size)
    clear hb
    go_wp2_with fail
    refine (HPl.out _ (HL.out.below hB)).mono ?_
    rintro e wk ⟨rfl, hb⟩
    replace hB := hB.trans (hb.mono hB.size)
    clear hb
    have p1 := (hB.cell (p := ⟨b, o + k * 2 + 1, none⟩) hbl).trans HP1.out
    have hbw := Nat.lt_of_lt_of_le hbl hB.size
    go_wp2_with fail
    go_ret2
    exact ⟨rfl, hB⟩
end Go.Proofs.YtppehllccdjfkaaGreatDoor

namespace Go.Proofs.YtppehllccdjfkaaGreatDoor
open Go.RowKit

end Go.Proofs.YtppehllccdjfkaaGreatDoor

namespace Go.Proofs.YtppehllccdjfkaaGreatDoor
open Go.RowKit

end Go.Proofs.YtppehllccdjfkaaGreatDoor

namespace Go.Proofs.YtppehllccdjfkaaGreatDoor
open Go.ChangeShapes Go.WideShapes Go.ChangeAt Go.RowKit Go.Deep

def Cg.good (_ : Cg) : Prop := True
section
variable {H : Type} {enc : TypeId × Value → H} {w : World} {base : Nat} {spare : Nat → Bool} {held : Bool}
end
end Go.Proofs.YtppehllccdjfkaaGreatDoor

namespace Go.Proofs.YtppehllccdjfkaaGreatDoor
open Go.RowKit

end Go.Proofs.YtppehllccdjfkaaGreatDoor
