/- Lemmas and contracts of functions, joined for the claim: UDiff, UDiff2, URef13, URef13b, URef13c, UOpen. -/
import Derived.Test.YtppehllccdjfkaaGreatDoorGUniD
import Derived.Test.YtppehllccdjfkaaGreatDoorGUniA
import Derived.Test.YtppehllccdjfkaaGreatDoorGOpen
import Derived.Test.YtppehllccdjfkaaGreatDoorGProE
import Derived.Test.YtppehllccdjfkaaGreatDoorGProA
namespace Go.Proofs.YtppehllccdjfkaaGreatDoor
open Go.RowKit

theorem infoCg : (Tryz.prog.info? 71).map (fun i => (i.zero, i.size, i.bytes)) = some (some (.agg #[.int .i64 0, .int .i64 0, .int .i64 0]), 3, 24) := by kernel_rfl
theorem infoCr : (Tryz.prog.info? 130).map (fun i => (i.zero, i.size, i.bytes)) = some (some (.agg #[.int .i64 0, .int .i64 0, .int .i64 0]), 3, 24) := by kernel_rfl
theorem cg_one (x y z : Int) : ∀ u ∈ [Value.int .i64 x, .int .i64 y, .int .i64 z], u.oneCell' = true := by simp; exact ⟨rfl, rfl, rfl⟩
def Fm.at_ (f : Fm) (k : Nat) : UInt8 := f.sl.data.toList.getD k 0

def difR (f g : Fm) : Nat → List Cg
  | 0 => []
  | k + 1 => difR f g k ++ (if g.at_ k = f.at_ k then [] else [⟨f.un, (k : Int) + 1, ((g.at_ k).toNat : Int)⟩])

def difA (a b : List Fm) : Nat → List Cg
  | 0 => []
  | i + 1 => difA a b i ++ difR (a.getD i fm0) (b.getD i fm0) 512
theorem difR_len (f g : Fm) : ∀ k, (difR f g k).length ≤ k
  | 0 => Nat.le_refl _
  | k + 1 => by
    have := difR_len f g k
    rw [difR, List.length_append]
    by_cases h : g.at_ k = f.at_ k
    · rw [if_pos h]; simp; omega
    · rw [if_neg h]; simp; omega
theorem difA_len (a b : List Fm) : ∀ i, (difA a b i).length ≤ 512 * i
  | 0 => Nat.le_refl _
  | i + 1 => by
    have h1 := difA_len a b i
    have h2 := difR_len (a.getD i fm0) (b.getD i fm0) 512
    rw [difA, List.length_append]
    omega

def eqU (a b : List Fm) : Bool := decide (a.length = b.length) && (List.range a.length).all fun i => decide ((a.getD i fm0).un = (b.getD i fm0).un)
def chgE (a b : List Fm) : Int := if rightE a ≠ 0 then rightE a else if rightE b ≠ 0 then rightE b else if eqU a b = false then 14 else 0
def chgV (a b : List Fm) : List Cg := if chgE a b ≠ 0 then [] else difA a b a.length
theorem eqU_yes {a b : List Fm} (hl : a.length = b.length) (h : ∀ i, i < a.length → (a.getD i fm0).un = (b.getD i fm0).un) : eqU a b = true := by
  unfold eqU
  rw [decide_eq_true hl, Bool.true_and, List.all_eq_true]
  intro i hi
  exact decide_eq_true (h i (List.mem_range.1 hi))
theorem eqU_no {a b : List Fm} {i : Nat} (hi : i < a.length) (h : ¬ (a.getD i fm0).un = (b.getD i fm0).un) : eqU a b = false := by
  unfold eqU
  rw [Bool.and_eq_false_iff]
  refine .inr ?_
  rw [List.all_eq_false]
  exact ⟨i, List.mem_range.2 hi, by simpa using h⟩
theorem eqU_len {a b : List Fm} (h : eqU a b = true) : a.length = b.length := by
  unfold eqU at h
  exact of_decide_eq_true (Bool.and_eq_true_iff.1 h).1
set_option maxHeartbeats 2000000 in
theorem uchg1_any (u v : Int) (s t : ByteArray) (w : World) :
    Calls Tryz.prog 73 #[.agg #[.int .i64 u, .string s], .agg #[.int .i64 v, .string t]] w fun e w' => e = .returned (.bool (u == v)) ∧ Below w.heap.size w w' := by
  obtain ⟨W, hW⟩ : ∃ W, W = ((w.alloc (.cells #[.int .i64 u, .string s] 83)).alloc (.cells #[.int .i64 v, .string t] 83)) := ⟨_, rfl⟩
  obtain ⟨hB0, hK0⟩ := box2 #[.int .i64 u, .string s] 83 #[.int .i64 v, .string t] 83 w W hW
  have hK : ∀ w', Below W.heap.size W w' → w'.cell? ⟨w.heap.size, 0, none⟩ = some (.int .i64 u) ∧ w'.cell? ⟨w.heap.size, 1, none⟩ = some (.string s) ∧ w'.cell? ⟨w.heap.size + 1, 0, none⟩ = some (.int .i64 v) ∧ w'.cell? ⟨w.heap.size + 1, 1, none⟩ = some (.string t) := fun w' h => ⟨(hK0 w' h).1 0 _ rfl, (hK0 w' h).1 1 _ rfl, (hK0 w' h).2 0 _ rfl, (hK0 w' h).2 1 _ rfl⟩
  have HK := Lib.hid hK
  have HW := Lib.hid hW
  have HB0 := Lib.hid hB0
  have hB := Below.refl W.heap.size W
  obtain ⟨c0, c1, c2, c3⟩ := hK W hB
  clear hW hB0 hK hK0
  go_enter Tryz.func73, Tryz.ntmps73
  go_wp2_with fail
  rw [← HW.out]
  go_wp2_with fail
  go_ret
  exact ⟨rfl, HB0.out⟩
set_option maxRecDepth 100000 in
set_option maxHeartbeats 8000000 in
theorem ueqf_any (A : Option Addr) (n c : Nat) (A' : Option Addr) (n' c' : Nat) (a b : List Fm) (w : World) (ha : shFm.In w A n a) (hb : shFm.In w A' n' b) (hn : n ≤ 9223372036854775806) (hn' : n' ≤ 9223372036854775806) :
    Calls Tryz.prog 72 #[.slice A n c, .slice A' n' c', .func (.func 73) #[] #[]] w fun e w' => e = .returned (.bool (eqU a b)) ∧ Below w.heap.size w w' := by
  obtain ⟨rfl, _⟩ := id ha
  obtain ⟨rfl, _⟩ := id hb
  have hB := Below.refl w.heap.size w
  have HA := Lib.hid ha
  have HBb := Lib.hid hb
  have HC := Lib.hid (fun u v s t w => uchg1_any u v s t w)
  have eg := enters_of Tryz.func73 (by kernel_rfl) rfl
  by_cases hlen : a.length = b.length
  case neg =>
    have e : eqU a b = false := by unfold eqU; rw [decide_eq_false hlen]; rfl
    rw [e]
    have g1 : ((a.length : Int) == (b.length : Int)) = false := by rw [beq_eq_false_iff_ne]; omega
    have g2 : ((a.length : Int) != (b.length : Int)) = true := by rw [bne, g1]; rfl
    clear ha hb e hlen
    go_enter Tryz.func72, Tryz.ntmps72
    go_wp2_with fail
    go_ret
    exact ⟨rfl, hB⟩
  obtain ⟨E, hE⟩ : ∃ E, eqU a b = E := ⟨_, rfl⟩
  rw [hE]
  have HE := Lib.hid hE
  have HLen := Lib.hid hlen
  have g1 : ((a.length : Int) == (b.length : Int)) = true := by rw [beq_iff_eq]; omega
  have g2 : ((a.length : Int) != (b.length : Int)) = false := by rw [bne, g1]; rfl
  clear ha hb hE hlen
  go_enter Tryz.func72, Tryz.ntmps72
  go_wp2_with fail
  go_loopw [17] (fun iv wr => ∃ k : Nat, k ≤ a.length ∧ iv = .int .i64 k ∧ (∀ i, i < k → (a.getD i fm0).un = (b.getD i fm0).un) ∧ Below w.heap.size w wr) (fun iv _ => a.length - (intOf iv).toNat)
  case atStart => exact ⟨0, Nat.zero_le _, rfl, fun i h => absurd h (Nat.not_lt_zero _), hB⟩
  case round =>
    clear hB
    obtain ⟨k, hk, rfl, hall, hB⟩ := hrel
    have HAll := Lib.hid hall
    clear hall
    by_cases hlt : k < a.length
    case neg =>
      obtain rfl : k = a.length := by omega
      have he := HE.out.symm.trans (eqU_yes HLen.out HAll.out)
      subst he
      go_wp2_with fail
      go_ret
      exact ⟨rfl, hB⟩
    case pos =>
      have hlt2 : k < b.length := by have := HLen.out; omega
      obtain ⟨b1, o1, rfl, hb1, hc1⟩ := fm_at HA.out (by omega)
      obtain ⟨b2, o2, rfl, hb2, hc2⟩ := fm_at HBb.out (by omega)
      obtain ⟨k0, k1⟩ := hc1 k hlt
      obtain ⟨m0, m1⟩ := hc2 k hlt2
      have p0 := (hB.cell (p := ⟨b1, o1 + k * 2, none⟩) hb1).trans k0
      have p1 := (hB.cell (p := ⟨b1, o1 + k * 2 + 1, none⟩) hb1).trans k1
      have q0 := (hB.cell (p := ⟨b2, o2 + k * 2, none⟩) hb2).trans m0
      have q1 := (hB.cell (p := ⟨b2, o2 + k * 2 + 1, none⟩) hb2).trans m1
      have n1 : b1 < wr.heap.size := Nat.lt_of_lt_of_le hb1 hB.size
      have n2 : b2 < wr.heap.size := Nat.lt_of_lt_of_le hb2 hB.size
      have n3 : ¬ b1 = wr.heap.size := by omega
      have n4 : ¬ b2 = wr.heap.size := by omega
      have i0 : (0 : Int) ≤ (k : Int) := by omega
      have i1 : (k : Int) < (a.length : Int) := by omega
      have i2 : (k : Int) < (b.length : Int) := by omega
      have w0 : IntKind.i64.wrap ((k : Int) + 1) = (k : Int) + 1 := IntWalk.i64_in _ (by omega)
      have HNo := Lib.hid (fun (h : ¬ (a.getD k fm0).un = (b.getD k fm0).un) => HE.out.symm.trans (eqU_no hlt h))
      have HYes := Lib.hid (fun (h : (a.getD k fm0).un = (b.getD k fm0).un) => show ∀ i, i < k + 1 → (a.getD i fm0).un = (b.getD i fm0).un from fun i hi => by
        rcases Nat.lt_or_eq_of_le (Nat.le_of_lt_succ hi) with h2 | h2
        · exact HAll.out i h2
        · subst h2; exact h)
      rw [getD_of hlt, getD_of hlt2] at HNo HYes
      clear hc1 hc2 k0 k1 m0 m1
      generalize a[k].un = u at *
      generalize a[k].sl = s at *
      generalize b[k].un = v at *
      generalize b[k].sl = t at *
      have ha2 : Below wr.heap.size wr ((wr.alloc (.cells #[.int .i64 u, .string s] 83)).alloc (.cells #[.int .i64 v, .string t] 83)) := ((Below.refl _ _).alloc (Nat.le_refl _) _).alloc (by simp) _
      have hB2 := hB.trans (ha2.mono hB.size)
      have hC2 := HC.out u v s t ((wr.alloc (.cells #[.int .i64 u, .string s] 83)).alloc (.cells #[.int .i64 v, .string t] 83))
      have HB2 := Lib.hid hB2
      have HC2 := Lib.hid hC2
      clear ha2 hB2 hC2
      by_cases hu : u = v
      · have HN := Lib.hid (HYes.out hu)
        have e1 : (u == v) = true := by simpa using hu
        rw [e1] at HC2
        clear hu e1
        go_wp2_with fail
        refine HC2.out.mono ?_
        rintro e w5 ⟨rfl, hb⟩
        have HB5 := Lib.hid (HB2.out.trans (hb.mono HB2.out.size))
        clear hb
        go_wp2_with fail
        go_roundw
        case rel => exact ⟨k + 1, hlt, by go_num, HN.out, HB5.out⟩
        case measure => simp [intOf]; omega
      · have he := HNo.out hu
        have e1 : (u == v) = false := by simpa using hu
        rw [e1] at HC2
        subst he
        clear hu e1
        go_wp2_with fail
        refine HC2.out.mono ?_
        rintro e w5 ⟨rfl, hb⟩
        have HB5 := Lib.hid (HB2.out.trans (hb.mono HB2.out.size))
        clear hb
        go_wp2_with fail
        go_ret
        exact ⟨rfl, HB5.out⟩
end Go.Proofs.YtppehllccdjfkaaGreatDoor

namespace Go.Proofs.YtppehllccdjfkaaGreatDoor
open Go.RowKit

theorem row_own {w w1 : World} {Q base z n : Nat} {c : Array Value} {t e : TypeId} {v : Value} {xs : List Value} (hR : RowAt w Q c t) (ho : w.ownsRow base e z v n xs) (hne : t ≠ e) (hg : w.grownBy w1 v.ownBlock) : RowAt w1 Q c t := by
  refine (hg.block Q hR.lt fun h => ?_).trans hR
  rcases ho.2 with ⟨rfl, _⟩ | ⟨g, cap, cur, rfl, _, hgg, _⟩
  · cases h
  · injection h with h
    subst h
    have h' : w.heap[Q]? = some (.cells c t (0, 0)) := hR
    rw [hgg] at h'
    injection h' with h'
    injection h' with _ h2
    exact hne h2.symm
theorem at_get {f : Fm} {k : Nat} (h : k < f.sl.size) : f.at_ k = f.sl[k] := by
  unfold Fm.at_
  rw [getD_of (by simpa using h)]
  rfl
set_option maxRecDepth 100000 in
set_option maxHeartbeats 16000000 in
theorem uChanges_any (A : Option Addr) (n c : Nat) (A' : Option Addr) (n' c' : Nat) (a b : List Fm) (w : World) (ha : shFm.In w A n a) (hb : shFm.In w A' n' b) (hn : n ≤ 9223372036854775806) (hn' : n' ≤ 9223372036854775806) (hsa : ∀ x ∈ a, x.sl.size ≤ 9223372036854775807) (hsb : ∀ x ∈ b, x.sl.size ≤ 9223372036854775807) :
    Calls Tryz.prog 30 #[.slice A n c, .slice A' n' c'] w fun e w' => ∃ r, e = .returned (.tuple #[r, .int .i64 (chgE a b)]) ∧ shCg.Out 71 (chgV a b) w r w' := by
  have hB := Below.refl w.heap.size w
  have hE : chgE a b = if rightE a ≠ 0 then rightE a else if rightE b ≠ 0 then rightE b else if eqU a b = false then 14 else 0 := rfl
  have hV : chgV a b = if chgE a b ≠ 0 then [] else difA a b a.length := rfl
  have HRa := Lib.hid (fun w h => uright_any A n c a w h hn hsa)
  have HRb := Lib.hid (fun w h => uright_any A' n' c' b w h hn' hsb)
  have HEq := Lib.hid (fun w h1 h2 => ueqf_any A n c A' n' c' a b w h1 h2 hn hn')
  have HA := Lib.hid ha
  have HB := Lib.hid hb
  have HGa := Lib.hid (fun (h : rightE a = 0) => frs_all h)
  have HGb := Lib.hid (fun (h : rightE b = 0) => frs_all h)
  have HEl := Lib.hid (fun (h : eqU a b = true) => eqU_len h)
  generalize chgV a b = V at *
  generalize chgE a b = E at *
  have HVV := Lib.hid hV
  generalize eqU a b = eq at *
  have ix0 : ∀ w, (Instr.index 133 (.agg #[.slice A n c, .slice A' n' c']) (.int .i64 0)).run Tryz.prog w = .ok (.slice A n c) w := fun w => by rfl
  have ix1 : ∀ w, (Instr.index 133 (.agg #[.slice A n c, .slice A' n' c']) (.int .i64 1)).run Tryz.prog w = .ok (.slice A' n' c') w := fun w => by rfl
  have HEE := Lib.hid hE
  clear ha hb hE hV hsa hsb
  go_enter Tryz.func30, Tryz.ntmps30
  go_wp2_with fail
  go_loopw [17] (fun iv wr => ∃ k : Nat, k ≤ 2 ∧ iv = .int .i64 k ∧ (0 < k → rightE a = 0) ∧ (1 < k → rightE b = 0) ∧ Below w.heap.size w wr) (fun iv _ => 2 - (intOf iv).toNat)
  case atStart => exact ⟨0, by omega, rfl, fun h => absurd h (by omega), fun h => absurd h (by omega), hB⟩
  case round =>
    clear hB
    obtain ⟨k, hk, rfl, h0, h1, hB⟩ := hrel
    have H01 := Lib.hid (And.intro h0 h1)
    clear h0 h1
    obtain rfl | rfl | rfl : k = 0 ∨ k = 1 ∨ k = 2 := by omega
    · by_cases hr : rightE a = 0
      · have HR0 := Lib.hid hr
        rw [hr] at HRa
        go_wp2_with fail
        refine (HRa.out _ (HA.out.below hB)).mono ?_
        rintro e w5 ⟨rfl, hb⟩
        replace hB := hB.trans (hb.mono hB.size)
        clear hb
        go_wp2_with fail
        go_roundw
        case rel => exact ⟨1, by omega, by go_num, fun _ => HR0.out, fun h => absurd h (by omega), hB⟩
        case measure => simp [intOf]
      · have hE := HEE.out
        rw [if_pos hr] at hE
        have hV0 : V = [] := by rw [HVV.out, if_pos (by rw [hE]; exact hr)]
        generalize rightE a = q at *
        subst hE hV0
        have g1 : (E == 0) = false := by simpa using hr
        have g2 : (E != 0) = true := by simpa using hr
        go_wp2_with fail
        refine (HRa.out _ (HA.out.below hB)).mono ?_
        rintro e w5 ⟨rfl, hb⟩
        replace hB := hB.trans (hb.mono hB.size)
        clear hb
        go_wp2_with fail
        go_ret2
        exact ⟨_, rfl, Sh.Out.nil hB⟩
    · have HR0 := Lib.hid (H01.out.1 (by omega))
      by_cases hr : rightE b = 0
      · have HR1 := Lib.hid hr
        rw [hr] at HRb
        go_wp2_with fail
        refine (HRb.out _ (HB.out.below hB)).mono ?_
        rintro e w5 ⟨rfl, hb⟩
        replace hB := hB.trans (hb.mono hB.size)
        clear hb
        go_wp2_with fail
        go_roundw
        case rel => exact ⟨2, by omega, by go_num, fun _ => HR0.out, fun _ => HR1.out, hB⟩
        case measure => simp [intOf]
      · have hE := HEE.out
        rw [if_neg (fun h => h HR0.out), if_pos hr] at hE
        have hV0 : V = [] := by rw [HVV.out, if_pos (by rw [hE]; exact hr)]
        generalize rightE b = q at *
        subst hE hV0
        have g1 : (E == 0) = false := by simpa using hr
        have g2 : (E != 0) = true := by simpa using hr
        go_wp2_with fail
        refine (HRb.out _ (HB.out.below hB)).mono ?_
        rintro e w5 ⟨rfl, hb⟩
        replace hB := hB.trans (hb.mono hB.size)
        clear hb
        go_wp2_with fail
        go_ret2
        exact ⟨_, rfl, Sh.Out.nil hB⟩
    · have hR0 := H01.out.1 (by omega)
      have hR1 := H01.out.2 (by omega)
      have hE := HEE.out
      rw [if_neg (fun h => h hR0), if_neg (fun h => h hR1)] at hE
      obtain ⟨ha8, hga⟩ := HGa.out hR0
      obtain ⟨hb8, hgb⟩ := HGb.out hR1
      cases eq with
      | false =>
        rw [if_pos rfl] at hE
        have hV0 : V = [] := by rw [HVV.out, if_pos (by rw [hE]; decide)]
        subst hE hV0
        go_wp2_with fail
        refine (HEq.out _ (HA.out.below hB) (HB.out.below hB)).mono ?_
        rintro e w5 ⟨rfl, hb⟩
        replace hB := hB.trans (hb.mono hB.size)
        clear hb
        go_wp2_with fail
        go_ret2
        exact ⟨_, rfl, Sh.Out.nil hB⟩
      | true =>
        rw [if_neg (by decide)] at hE
        have hV0 : V = difA a b a.length := by rw [HVV.out, if_neg (fun h => h hE)]
        have HV0 := Lib.hid hV0
        subst hE
        clear hV0
        have hlen := HEl.out rfl
        obtain rfl : n = a.length := HA.out.1
        obtain rfl : n' = b.length := HB.out.1
        have HLen := Lib.hid hlen
        have HGA := Lib.hid (fun i (h : i < a.length) => show a[i].sl.size = 512 from by have := (rg_ok (hga i h)).2.2.1; rw [getD_of h] at this; exact this)
        have HGB := Lib.hid (fun i (h : i < b.length) => show b[i].sl.size = 512 from by have := (rg_ok (hgb i h)).2.2.1; rw [getD_of h] at this; exact this)
        have HUn := Lib.hid (fun i (h : i < a.length) => show 1 ≤ a[i].un ∧ a[i].un ≤ 8 from by have := rg_ok (hga i h); rw [getD_of h] at this; exact ⟨this.1, this.2.1⟩)
        clear hga hgb hlen hR0 hR1 H01 HRa HRb
        go_wp2_with fail
        refine (HEq.out _ (HA.out.below hB) (HB.out.below hB)).mono ?_
        rintro e w5 ⟨rfl, hb⟩
        have HB5 := Lib.hid (hB.trans (hb.mono hB.size))
        clear hb hB
        go_wp2_with fail
        go_loopw [9, 32] (fun vo iv wr => ∃ i : Nat, i ≤ a.length ∧ iv = .int .i64 i ∧ wr.ownsRow w.heap.size 71 3 vo (difA a b i).length (shCg.vs (difA a b i)) ∧ Below w.heap.size w wr) (fun _ iv _ => a.length - (intOf iv).toNat)
        case atStart => exact ⟨0, Nat.zero_le _, rfl, World.ownsRow_nil _ _ _ _, HB5.out⟩
        case round =>
          obtain ⟨i, hi, rfl, hown, hb⟩ := hrel
          rename World => V3
          have Hb := Lib.hid hb
          obtain ⟨Ao, co, rfl⟩ := own_form hown
          have HOw := Lib.hid hown
          by_cases hlt : i < a.length
          case neg =>
            obtain rfl : i = a.length := by omega
            clear hown hb
            go_wp2_with fail
            go_ret2
            exact ⟨_, rfl, by rw [HV0.out]; exact ⟨Ao, co, rfl, HOw.out, Hb.out⟩⟩
          case pos =>
            have hlt2 : i < b.length := by have := HLen.out; omega
            obtain ⟨b1, o1, rfl, hb1, hc1⟩ := fm_at HA.out (by omega)
            obtain ⟨b2, o2, rfl, hb2, hc2⟩ := fm_at HB.out (by omega)
            obtain ⟨k0, k1⟩ := hc1 i hlt
            have HC2 := Lib.hid (hc2 i hlt2)
            have p0 := (hb.cell (p := ⟨b1, o1 + i * 2, none⟩) hb1).trans k0
            have p1 := (hb.cell (p := ⟨b1, o1 + i * 2 + 1, none⟩) hb1).trans k1
            have n1 : b1 < V3.heap.size := Nat.lt_of_lt_of_le hb1 hb.size
            have i0 : (0 : Int) ≤ (i : Int) := by omega
            have i1 : (i : Int) < (a.length : Int) := by omega
            have i2 : (i : Int) < (b.length : Int) := by omega
            have w0 : IntKind.i64.wrap ((i : Int) + 1) = (i : Int) + 1 := IntWalk.i64_in _ (by omega)
            have hst : difA a b (i + 1) = difA a b i ++ difR a[i] b[i] 512 := by rw [difA, getD_of hlt, getD_of hlt2]
            have HSt := Lib.hid hst
            have hsza := HGA.out i hlt
            have hszb := HGB.out i hlt2
            have hdl := difA_len a b i
            have hdl2 : (difA a b i).length ≤ 3584 := by omega
            clear hdl
            clear hst hc1 hc2 k0 k1 hown
            generalize a[i] = f at *
            generalize b[i] = g at *
            generalize difA a b i = D at *
            obtain ⟨fu, fs⟩ := f
            obtain ⟨gu, gs⟩ := g
            dsimp only at p0 p1 HC2 hsza hszb
            obtain ⟨W1, hW1⟩ : ∃ W1, W1 = V3.alloc (.cells #[.int .i64 fu, .string fs] 83) := ⟨_, rfl⟩
            have hbb1 : Below V3.heap.size V3 W1 := by rw [hW1]; exact (Below.refl _ _).alloc (Nat.le_refl _) _
            have HX1 := Lib.hid (show RowAt W1 V3.heap.size #[.int .i64 fu, .string fs] 83 by rw [hW1]; exact RowAt.fresh V3 _ _)
            have HB1 := Lib.hid (hb.trans (hbb1.mono hb.size))
            have HO1 := Lib.hid (own_below HOw.out hbb1)
            have HW1 := Lib.hid hW1
            have HQl := Lib.hid hb.size
            clear hW1 hbb1
            have hcell2 := HC2.out
            have r1 := (HB1.out.cell (p := ⟨b2, o2 + i * 2 + 1, none⟩) hb2).trans hcell2.2
            have n2 : b2 < W1.heap.size := Nat.lt_of_lt_of_le hb2 HB1.out.size
            go_wp2_with fail
            rw [← HW1.out]
            go_loopw [9, 37] (fun vo iv w3 => ∃ k : Nat, k ≤ 512 ∧ iv = .int .i64 k ∧ w3.ownsRow w.heap.size 71 3 vo (D ++ difR ⟨fu, fs⟩ ⟨gu, gs⟩ k).length (shCg.vs (D ++ difR ⟨fu, fs⟩ ⟨gu, gs⟩ k)) ∧ Below w.heap.size w w3 ∧ RowAt w3 V3.heap.size #[.int .i64 fu, .string fs] 83) (fun _ iv _ => 512 - (intOf iv).toNat)
            case atStart => exact ⟨0, Nat.zero_le _, rfl, by simpa [difR] using HO1.out, HB1.out, HX1.out⟩
            case round =>
              obtain ⟨k, hk, rfl, hown, hb3, hR3⟩ := hrel
              have Hb3 := Lib.hid hb3
              have HR3 := Lib.hid hR3
              obtain ⟨Ao2, co2, rfl⟩ := own_form hown
              have HOw3 := Lib.hid hown
              have x0 := hR3.cell (j := 0) (u := .int .i64 fu) rfl
              have x1 := hR3.cell (j := 1) (u := .string fs) rfl
              have r2 := (hb3.cell (p := ⟨b2, o2 + i * 2 + 1, none⟩) hb2).trans hcell2.2
              have n3 : b2 < wr.heap.size := Nat.lt_of_lt_of_le hb2 hb3.size
              by_cases hlt3 : k < 512
              case neg =>
                obtain rfl : k = 512 := by omega
                clear hown hb3 hR3
                go_wp2_with fail
                go_roundw
                case rel => exact ⟨i + 1, by omega, by go_num, by rw [HSt.out]; exact HOw3.out, Hb3.out⟩
                case measure => simp [intOf]; omega
              case pos =>
                have j0 : (0 : Int) ≤ (k : Int) := by omega
                have j1 : (k : Int) < 512 := by omega
                have j2 : (k : Int) < (fs.size : Int) := by omega
                have j3 : (k : Int) < (gs.size : Int) := by omega
                have w1 : IntKind.i64.wrap ((k : Int) + 1) = (k : Int) + 1 := IntWalk.i64_in _ (by omega)
                have hkf : k < fs.size := by omega
                have hkg : k < gs.size := by omega
                have hst : difR ⟨fu, fs⟩ ⟨gu, gs⟩ (k + 1) = difR ⟨fu, fs⟩ ⟨gu, gs⟩ k ++ (if gs[k] = fs[k] then [] else [⟨fu, (k : Int) + 1, (gs[k].toNat : Int)⟩]) := by
                  rw [difR, at_get (f := ⟨fu, fs⟩) (by exact hkf), at_get (f := ⟨gu, gs⟩) (by exact hkg)]
                have hrl := difR_len ⟨fu, fs⟩ ⟨gu, gs⟩ k
                obtain ⟨c1, hc1⟩ : ∃ c1, fs[k] = c1 := ⟨_, rfl⟩
                obtain ⟨d1, hd1⟩ : ∃ d1, gs[k] = d1 := ⟨_, rfl⟩
                rw [hc1, hd1] at hst
                by_cases hdc : d1 = c1
                · subst hdc
                  rw [if_pos rfl, List.append_nil] at hst
                  have HSt3 := Lib.hid hst
                  have g1 : ((d1.toNat : Int) != (d1.toNat : Int)) = false := by simp
                  clear hst hown hb3 hR3 hrl
                  go_wp2_with fail
                  go_roundw
                  case rel => exact ⟨k + 1, by omega, by go_num, by rw [HSt3.out]; exact HOw3.out, Hb3.out, HR3.out⟩
                  case measure => simp [intOf]; omega
                · rw [if_neg hdc] at hst
                  have g1 : ((d1.toNat : Int) == (c1.toNat : Int)) = false := by
                    rw [beq_eq_false_iff_ne]
                    intro h
                    exact hdc (UInt8.toNat_inj.1 (by omega))
                  have g2 : ((d1.toNat : Int) != (c1.toNat : Int)) = true := by rw [bne, g1]; rfl
                  have w2 : IntKind.i64.wrap (d1.toNat : Int) = (d1.toNat : Int) := IntWalk.i64_in _ (by have := d1.toNat_lt; omega)
                  have hvs : shCg.vs (D ++ difR ⟨fu, fs⟩ ⟨gu, gs⟩ (k + 1)) = shCg.vs (D ++ difR ⟨fu, fs⟩ ⟨gu, gs⟩ k) ++ [.int .i64 fu, .int .i64 ((k : Int) + 1), .int .i64 (d1.toNat : Int)] := by rw [hst, ← List.append_assoc, Sh.vs_append, Sh.vs_one1]; rfl
                  have hln : (D ++ difR ⟨fu, fs⟩ ⟨gu, gs⟩ (k + 1)).length = (D ++ difR ⟨fu, fs⟩ ⟨gu, gs⟩ k).length + 1 := by rw [hst, ← List.append_assoc, List.length_append]; rfl
                  have HSt3 := Lib.hid (And.intro hln hvs)
                  have hlenD : (D ++ difR ⟨fu, fs⟩ ⟨gu, gs⟩ k).length ≤ 4096 := by rw [List.length_append]; omega
                  have hsz := hb3.size
                  clear hst hvs hln hb3 hR3 hrl hdc
                  generalize D ++ difR ⟨fu, fs⟩ ⟨gu, gs⟩ k = DD at *
                  go_wp2_with (at_builtin; refine wpList_push rfl _ _ _ rfl w.heap.size _ _ 3 24 Tryz.underlying52 infoCg rfl (by omega) _ DD.length (shCg.vs DD) rfl hown [.int .i64 fu, .int .i64 ((k : Int) + 1), .int .i64 (d1.toNat : Int)] _ _ _ rfl (by first | rfl | simp) rfl (cg_one _ _ _) (by unfold maxLen; omega) (by omega) (by first | omega | (simp; omega) | simp) ?_; intro g cap w1 hown1 hg1)
                  go_roundw
                  case rel => exact ⟨k + 1, by omega, by go_num, by rw [HSt3.out.1, HSt3.out.2]; exact hown1, below_push Hb3.out (Nat.le_refl _) hown hg1, row_own HR3.out hown (by decide) hg1⟩
                  case measure => simp [intOf]; omega
end Go.Proofs.YtppehllccdjfkaaGreatDoor

namespace Go.Proofs.YtppehllccdjfkaaGreatDoor
open Go.ChangeShapes Go.WideShapes Go.ChangeAt Go.RowKit Go.Deep

def Fm.good (f : Fm) : Prop := f.sl.size ≤ maxLen
section
variable {H : Type} {enc : TypeId × Value → H} {w : World} {base : Nat} {spare : Nat → Bool} {held : Bool}
theorem frame_cells {fuel : Nat} {cs : List Value} {x : DataW H × List MemPlace} (h : DataW.trod enc Tryz.prog w base spare held fuel 83 cs = some x) : ∃ g : Fm, cs = shFm.cs g ∧ g.good := by
  obtain ⟨hl, hf⟩ := trod_field (fs := Tryz.prog.fieldsOf 83) (by kernel_rfl) h
  rw [show Tryz.prog.cellsOf 83 = 2 by kernel_rfl] at hl
  rw [show (Tryz.prog.fieldsOf 83).map (fun f => (f.type, f.offset)) = #[(3, 0), (9, 1)] by kernel_rfl] at hf
  obtain ⟨a, b, rfl⟩ := cells2 hl
  obtain ⟨n0, y0, h0⟩ := hf 0 _ _ rfl
  obtain ⟨n1, y1, h1⟩ := hf 1 _ _ rfl
  rw [cellsI1] at h0
  rw [show Tryz.prog.cellsOf 9 = 1 by kernel_rfl] at h1
  obtain ⟨x1, rfl, g1⟩ := trod_i h0
  obtain ⟨s, rfl, g0⟩ := trod_str h1
  exact ⟨⟨x1, s⟩, rfl, g0⟩
end
end Go.Proofs.YtppehllccdjfkaaGreatDoor

namespace Go.Proofs.YtppehllccdjfkaaGreatDoor
open Go.RowKit

set_option maxRecDepth 100000 in
set_option maxHeartbeats 8000000 in
theorem rright_any (A : Option Addr) (n c : Nat) (l : List Fm) (w : World) (hl : shFm.In w A n l) (hn : n ≤ 9223372036854775806) (hs : ∀ x ∈ l, x.sl.size ≤ 9223372036854775807) :
    Calls Tryz.prog 25 #[.slice A n c] w fun e w' => e = .returned (.int .i64 (rightE l)) ∧ Below w.heap.size w w' := by
  obtain ⟨rfl, _⟩ := id hl
  have hB := Below.refl w.heap.size w
  have hU : rightE l = if 8 < l.length then 5 else firstE (rgE l) l.length := rfl
  obtain ⟨E, hE⟩ : ∃ E, rightE l = E := ⟨_, rfl⟩
  rw [hE] at hU ⊢
  have HL := Lib.hid hl
  have HS := Lib.hid hs
  clear hl hE hs
  by_cases h1 : 8 < l.length
  · rw [if_pos h1] at hU
    subst hU
    have g1 : (8 : Int) < (l.length : Int) := by omega
    go_enter Tryz.func25, Tryz.ntmps25
    go_wp2_with fail
    go_ret
    exact ⟨rfl, hB⟩
  have g1 : ¬ (8 : Int) < (l.length : Int) := by omega
  rw [if_neg h1] at hU
  have HU := Lib.hid hU
  clear hU
  go_enter Tryz.func25, Tryz.ntmps25
  go_wp2_with fail
  go_loopw [3] (fun iv wr => ∃ k : Nat, k ≤ l.length ∧ iv = .int .i64 k ∧ (∀ j, j < k → rgE l j = 0) ∧ Below w.heap.size w wr) (fun iv _ => l.length - (intOf iv).toNat)
  case atStart => exact ⟨0, Nat.zero_le _, rfl, fun j h => absurd h (Nat.not_lt_zero _), hB⟩
  case round =>
    clear hB
    obtain ⟨k, hk, rfl, hall, hB⟩ := hrel
    have HAll := Lib.hid hall
    clear hall
    by_cases hlt : k < l.length
    case neg =>
      obtain rfl : k = l.length := by omega
      have hU := HU.out
      rw [firstE_none HAll.out] at hU
      subst hU
      go_wp2_with fail
      go_ret
      exact ⟨rfl, hB⟩
    case pos =>
      obtain ⟨b, o, rfl, hbl, hcell⟩ := fm_at HL.out (by omega)
      obtain ⟨k0, k1⟩ := hcell k hlt
      have p0 := (hB.cell (p := ⟨b, o + k * 2, none⟩) hbl).trans k0
      have p1 := (hB.cell (p := ⟨b, o + k * 2 + 1, none⟩) hbl).trans k1
      have hbw : b < wr.heap.size := Nat.lt_of_lt_of_le hbl hB.size
      have i0 : (0 : Int) ≤ (k : Int) := by omega
      have i1 : (k : Int) < (l.length : Int) := by omega
      have w0 : IntKind.i64.wrap ((k : Int) + 1) = (k : Int) + 1 := IntWalk.i64_in _ (by omega)
      have hSome := Lib.hid (fun (h : rgE l k ≠ 0) => HU.out.trans (firstE_some HAll.out h hlt))
      have hZero := Lib.hid (fun (h : rgE l k = 0) => firstE_step HAll.out h)
      have hAE : rgE l k = if l[k].un < 1 ∨ 8 < l[k].un then 2 else if l[k].sl.size ≠ 512 then 14 else if 0 < k ∧ l[k].un ≤ (l.getD (k - 1) fm0).un then 9 else 0 := by
        unfold rgE
        rw [getD_of hlt]
      have hprev : 0 < k → wr.cell? ⟨b, o + (k - 1) * 2, none⟩ = some (.int .i64 (l.getD (k - 1) fm0).un) := fun h => by
        rw [getD_of (by omega)]
        exact (hB.cell (p := ⟨b, o + (k - 1) * 2, none⟩) hbl).trans (hcell (k - 1) (by omega)).1
      have HPrev := Lib.hid hprev
      have hsz := HS.out _ (List.getElem_mem hlt)
      clear hcell hprev k0 k1
      generalize (l.getD (k - 1) fm0).un = pu at *
      generalize l[k] = x at *
      obtain ⟨un, sl⟩ := x
      dsimp only at p0 p1 hAE hsz
      have HB := Lib.hid hB
      have n1 : b < wr.heap.size + 1 := by omega
      have n2 : ¬ b = wr.heap.size := by omega
      by_cases h2 : un < 1
      · rw [if_pos (.inl h2)] at hAE
        have hU := hSome.out (by rw [hAE]; decide)
        rw [hAE] at hU
        subst hU
        go_wp2_with fail
        go_ret
        exact ⟨rfl, HB.out⟩
      by_cases h3 : 8 < un
      · rw [if_pos (.inr h3)] at hAE
        have hU := hSome.out (by rw [hAE]; decide)
        rw [hAE] at hU
        subst hU
        go_wp2_with fail
        go_ret
        exact ⟨rfl, HB.out⟩
      rw [if_neg (by omega)] at hAE
      by_cases h4 : sl.size = 512
      case neg =>
        rw [if_pos h4] at hAE
        have hU := hSome.out (by rw [hAE]; decide)
        rw [hAE] at hU
        subst hU
        have g2 : ((sl.size : Int) == 512) = false := by rw [beq_eq_false_iff_ne]; omega
        have g3 : ((sl.size : Int) != 512) = true := by rw [bne, g2]; rfl
        go_wp2_with fail
        go_ret
        exact ⟨rfl, HB.out⟩
      case pos =>
        rw [if_neg (fun h => h h4)] at hAE
        have g2 : ((sl.size : Int) == 512) = true := by rw [beq_iff_eq]; omega
        have g3 : ((sl.size : Int) != 512) = false := by rw [bne, g2]; rfl
        by_cases hk0 : k = 0
        · subst hk0
          simp only [Nat.zero_mul, Nat.add_zero] at p0 p1
          have HN := Lib.hid (hZero.out (by rw [hAE, if_neg (fun h => absurd h.1 (by omega))]))
          go_wp2_with fail
          go_quiet (fail)
          go_wp2_with fail
          go_roundw
          case rel => exact ⟨1, by omega, by go_num, HN.out, below_drewN HB.out _⟩
          case measure => simp [intOf]; omega
        · obtain ⟨j, rfl⟩ : ∃ j, k = j + 1 := ⟨k - 1, by omega⟩
          have q0 := HPrev.out (by omega)
          rw [Nat.add_sub_cancel] at q0
          have j0 : (0 : Int) ≤ (j : Int) := by omega
          have j1 : (j : Int) < (l.length : Int) := by omega
          have j2 : (0 : Int) < (j : Int) + 1 := by omega
          have w1 : IntKind.i64.wrap ((j : Int) + 1 - 1) = (j : Int) := by rw [Int.add_sub_cancel]; exact IntWalk.i64_in _ (by omega)
          have w2 : IntKind.i64.wrap (j : Int) = (j : Int) := IntWalk.i64_in _ (by omega)
          have w3 : IntKind.i64.wrap ((j : Int) + 1 + 1) = (j : Int) + 1 + 1 := IntWalk.i64_in _ (by omega)
          have w4 : IntKind.i64.wrap ((j : Int) + 1) = (j : Int) + 1 := IntWalk.i64_in _ (by omega)
          by_cases h5 : un ≤ pu
          · rw [if_pos ⟨by omega, h5⟩] at hAE
            have hU := hSome.out (by rw [hAE]; decide)
            rw [hAE] at hU
            subst hU
            go_wp2_with fail
            go_quiet (fail)
            go_wp2_with fail
            go_ret
            exact ⟨rfl, below_drewN HB.out _⟩
          · have HN := Lib.hid (hZero.out (by rw [hAE, if_neg (fun h => h5 h.2)]))
            go_wp2_with fail
            go_quiet (fail)
            go_wp2_with fail
            go_roundw
            case rel => exact ⟨j + 1 + 1, by omega, by go_num, HN.out, below_drewN HB.out _⟩
            case measure => simp [intOf]; omega
theorem fm_ext2 {a b : Fm} : a = b ↔ a.un = b.un ∧ a.sl = b.sl := by
  cases a; cases b
  simp
instance : DecidableEq Fm := fun a b => decidable_of_iff (a.un = b.un ∧ a.sl = b.sl) fm_ext2.symm
theorem cg_ext2 {a b : Cg} : a = b ↔ a.un = b.un ∧ a.ad = b.ad ∧ a.by_ = b.by_ := by
  cases a; cases b
  simp
instance : DecidableEq Cg := fun a b => decidable_of_iff (a.un = b.un ∧ a.ad = b.ad ∧ a.by_ = b.by_) cg_ext2.symm
set_option maxRecDepth 100000 in
set_option maxHeartbeats 8000000 in
theorem rsame_any (A B : Option Addr) (n m c d : Nat) (l k : List Fm) (w : World) (hl : shFm.In w A n l) (hk : shFm.In w B m k) (hn : n ≤ 9223372036854775807) (hm : m ≤ 9223372036854775807) :
    Calls Tryz.prog 18 #[.slice A n c, .slice B m d] w fun e w' => e = .returned (.bool (decide (l = k))) ∧ Below w.heap.size w w' := by
  obtain ⟨rfl, _⟩ := id hl
  obtain ⟨rfl, _⟩ := id hk
  have hB := Below.refl w.heap.size w
  by_cases hlen : l.length = k.length
  · obtain ⟨r, hr⟩ : ∃ r, r = decide (l = k) := ⟨_, rfl⟩
    rw [← hr]
    have HR := Lib.hid hr
    have HLen := Lib.hid hlen
    have hl2 : ((l.length : Int) == (k.length : Int)) = true := by rw [beq_iff_eq]; omega
    have HN := Lib.hid hn
    clear hr hB
    rw [hlen] at hn ⊢
    clear hlen hl2
    go_enter Tryz.func18, Tryz.ntmps18
    go_wp2
    go_loopw [5] (fun iv wr => ∃ j : Nat, j ≤ k.length ∧ iv = .int .i64 j ∧ (∀ i (h1 : i < l.length) (h2 : i < k.length), i < j → l[i] = k[i]) ∧ Below w.heap.size w wr) (fun iv _ => k.length - (intOf iv).toNat)
    case atStart => exact ⟨0, Nat.zero_le _, rfl, fun _ _ _ h => absurd h (by omega), Below.refl _ _⟩
    case round =>
      obtain ⟨j, hj, rfl, hall, hBr⟩ := hrel
      have HAll := Lib.hid hall
      have HBr := Lib.hid hBr
      clear hall
      by_cases hlt : j < k.length
      · have hlt2 : j < l.length := by have := HLen.out; omega
        obtain ⟨b, o, rfl, hbl, hc⟩ := fm_at (hl.below hBr) (by omega)
        obtain ⟨b', o', rfl, hbl', hc'⟩ := fm_at (hk.below hBr) (by omega)
        obtain ⟨p0, p1⟩ := hc j hlt2
        obtain ⟨q0, q1⟩ := hc' j hlt
        have HE := Lib.hid (fm_ext2 (a := l[j]) (b := k[j]))
        have hjl : (j : Int) < (l.length : Int) := by omega
        have hjk : (j : Int) < (k.length : Int) := by omega
        have hj0 : (0 : Int) ≤ (j : Int) := by omega
        have HF := Lib.hid (show l[j] ≠ k[j] → r = false from fun h => by
          rw [HR.out]
          refine decide_eq_false fun e => h ?_
          subst e
          rfl)
        have HNx := Lib.hid (show l[j] = k[j] → ∀ i (h1 : i < l.length) (h2 : i < k.length), i < j + 1 → l[i] = k[i] from fun e i h1 h2 h3 => by
          by_cases h4 : i < j
          · exact HAll.out i h1 h2 h4
          · obtain rfl : i = j := by omega
            exact e)
        generalize hx : l[j] = x at *
        generalize hy : k[j] = y at *
        obtain ⟨xa, xs⟩ := x
        obtain ⟨ya, ys⟩ := y
        dsimp only at *
        have hBw := Lib.hid (fun n => below_drewN HBr.out n)
        clear hc hc' hx hy hBr
        rw [HLen.out] at hjl
        by_cases h1 : xa = ya
        · by_cases h2 : xs = ys
          · subst h1 h2
            have HN3 := Lib.hid (HNx.out rfl)
            clear HNx HF HE
            go_wp2_with fail
            go_quiet (fail)
            go_wp2
            go_roundw
            case rel => exact ⟨j + 1, by omega, by go_num, HN3.out, hBw.out _⟩
            case measure => simp [intOf]; omega
          · have hf := HF.out (fun e => h2 (HE.out.1 e).2)
            subst h1
            have g2 : (xs.toList == ys.toList) = false := by rw [bytes_bq, decide_eq_false h2]
            clear HNx HF HE HR
            subst hf
            go_wp2_with fail
            go_quiet (fail)
            go_wp2
            go_ret
            exact ⟨rfl, hBw.out _⟩
        · have hf := HF.out (fun e => h1 (HE.out.1 e).1)
          have g2 : (xa == ya) = false := by simpa using h1
          clear HNx HF HE HR
          subst hf
          go_wp2_with fail
          go_quiet (fail)
          go_wp2
          go_ret
          exact ⟨rfl, hBw.out _⟩
      · have hf : r = true := by
          rw [HR.out]
          refine decide_eq_true (List.ext_getElem HLen.out fun i h1 h2 => HAll.out i h1 h2 (by omega))
        clear HR
        subst hf
        obtain rfl : j = k.length := by omega
        go_wp2
        go_ret
        exact ⟨rfl, HBr.out⟩
  · have e : decide (l = k) = false := decide_eq_false fun h => hlen (by rw [h])
    rw [e]
    have hl2 : ((l.length : Int) == (k.length : Int)) = false := by rw [beq_eq_false_iff_ne]; omega
    clear e
    go_enter Tryz.func18, Tryz.ntmps18
    go_wp2
    go_ret
    exact ⟨rfl, hB⟩
set_option maxRecDepth 100000 in
set_option maxHeartbeats 8000000 in
theorem uequal_any (A B : Option Addr) (n m c d : Nat) (l k : List Fm) (w : World) (hl : shFm.In w A n l) (hk : shFm.In w B m k) (hn : n ≤ 9223372036854775807) (hm : m ≤ 9223372036854775807) :
    Calls Tryz.prog 68 #[.slice A n c, .slice B m d] w fun e w' => e = .returned (.bool (decide (l = k))) ∧ Below w.heap.size w w' := by
  obtain ⟨rfl, _⟩ := id hl
  obtain ⟨rfl, _⟩ := id hk
  have hB := Below.refl w.heap.size w
  by_cases hlen : l.length = k.length
  · obtain ⟨r, hr⟩ : ∃ r, r = decide (l = k) := ⟨_, rfl⟩
    rw [← hr]
    have HR := Lib.hid hr
    have HLen := Lib.hid hlen
    have hl2 : ((l.length : Int) == (k.length : Int)) = true := by rw [beq_iff_eq]; omega
    have HN := Lib.hid hn
    clear hr hB
    rw [hlen] at hn ⊢
    clear hlen hl2
    go_enter Tryz.func68, Tryz.ntmps68
    go_wp2
    go_loopw [13] (fun iv wr => ∃ j : Nat, j ≤ k.length ∧ iv = .int .i64 j ∧ (∀ i (h1 : i < l.length) (h2 : i < k.length), i < j → l[i] = k[i]) ∧ Below w.heap.size w wr) (fun iv _ => k.length - (intOf iv).toNat)
    case atStart => exact ⟨0, Nat.zero_le _, rfl, fun _ _ _ h => absurd h (by omega), Below.refl _ _⟩
    case round =>
      obtain ⟨j, hj, rfl, hall, hBr⟩ := hrel
      have HAll := Lib.hid hall
      have HBr := Lib.hid hBr
      clear hall
      by_cases hlt : j < k.length
      · have hlt2 : j < l.length := by have := HLen.out; omega
        obtain ⟨b, o, rfl, hbl, hc⟩ := fm_at (hl.below hBr) (by omega)
        obtain ⟨b', o', rfl, hbl', hc'⟩ := fm_at (hk.below hBr) (by omega)
        obtain ⟨p0, p1⟩ := hc j hlt2
        obtain ⟨q0, q1⟩ := hc' j hlt
        have HE := Lib.hid (fm_ext2 (a := l[j]) (b := k[j]))
        have hjl : (j : Int) < (l.length : Int) := by omega
        have hjk : (j : Int) < (k.length : Int) := by omega
        have hj0 : (0 : Int) ≤ (j : Int) := by omega
        have HF := Lib.hid (show l[j] ≠ k[j] → r = false from fun h => by
          rw [HR.out]
          refine decide_eq_false fun e => h ?_
          subst e
          rfl)
        have HNx := Lib.hid (show l[j] = k[j] → ∀ i (h1 : i < l.length) (h2 : i < k.length), i < j + 1 → l[i] = k[i] from fun e i h1 h2 h3 => by
          by_cases h4 : i < j
          · exact HAll.out i h1 h2 h4
          · obtain rfl : i = j := by omega
            exact e)
        generalize hx : l[j] = x at *
        generalize hy : k[j] = y at *
        obtain ⟨xa, xs⟩ := x
        obtain ⟨ya, ys⟩ := y
        dsimp only at *
        have hBw := Lib.hid (fun n => below_drewN HBr.out n)
        clear hc hc' hx hy hBr
        rw [HLen.out] at hjl
        by_cases h1 : xa = ya
        · by_cases h2 : xs = ys
          · subst h1 h2
            have HN3 := Lib.hid (HNx.out rfl)
            clear HNx HF HE
            go_wp2_with fail
            go_quiet (fail)
            go_wp2
            go_roundw
            case rel => exact ⟨j + 1, by omega, by go_num, HN3.out, hBw.out _⟩
            case measure => simp [intOf]; omega
          · have hf := HF.out (fun e => h2 (HE.out.1 e).2)
            subst h1
            have g2 : (xs.toList == ys.toList) = false := by rw [bytes_bq, decide_eq_false h2]
            clear HNx HF HE HR
            subst hf
            go_wp2_with fail
            go_quiet (fail)
            go_wp2
            go_ret
            exact ⟨rfl, hBw.out _⟩
        · have hf := HF.out (fun e => h1 (HE.out.1 e).1)
          have g2 : (xa == ya) = false := by simpa using h1
          clear HNx HF HE HR
          subst hf
          go_wp2_with fail
          go_quiet (fail)
          go_wp2
          go_ret
          exact ⟨rfl, hBw.out _⟩
      · have hf : r = true := by
          rw [HR.out]
          refine decide_eq_true (List.ext_getElem HLen.out fun i h1 h2 => HAll.out i h1 h2 (by omega))
        clear HR
        subst hf
        obtain rfl : j = k.length := by omega
        go_wp2
        go_ret
        exact ⟨rfl, HBr.out⟩
  · have e : decide (l = k) = false := decide_eq_false fun h => hlen (by rw [h])
    rw [e]
    have hl2 : ((l.length : Int) == (k.length : Int)) = false := by rw [beq_eq_false_iff_ne]; omega
    clear e
    go_enter Tryz.func68, Tryz.ntmps68
    go_wp2
    go_ret
    exact ⟨rfl, hB⟩
set_option maxRecDepth 100000 in
set_option maxHeartbeats 8000000 in
theorem rsamech_any (A B : Option Addr) (n m c d : Nat) (l k : List Cg) (w : World) (hl : shCg.In w A n l) (hk : shCg.In w B m k) (hn : n ≤ 9223372036854775807) (hm : m ≤ 9223372036854775807) :
    Calls Tryz.prog 32 #[.slice A n c, .slice B m d] w fun e w' => e = .returned (.bool (decide (l = k))) ∧ Below w.heap.size w w' := by
  obtain ⟨rfl, _⟩ := id hl
  obtain ⟨rfl, _⟩ := id hk
  have hB := Below.refl w.heap.size w
  by_cases hlen : l.length = k.length
  · obtain ⟨r, hr⟩ : ∃ r, r = decide (l = k) := ⟨_, rfl⟩
    rw [← hr]
    have HR := Lib.hid hr
    have HLen := Lib.hid hlen
    have hl2 : ((l.length : Int) == (k.length : Int)) = true := by rw [beq_iff_eq]; omega
    have HN := Lib.hid hn
    clear hr hB
    rw [hlen] at hn ⊢
    clear hlen hl2
    go_enter Tryz.func32, Tryz.ntmps32
    go_wp2
    go_loopw [5] (fun iv wr => ∃ j : Nat, j ≤ k.length ∧ iv = .int .i64 j ∧ (∀ i (h1 : i < l.length) (h2 : i < k.length), i < j → l[i] = k[i]) ∧ Below w.heap.size w wr) (fun iv _ => k.length - (intOf iv).toNat)
    case atStart => exact ⟨0, Nat.zero_le _, rfl, fun _ _ _ h => absurd h (by omega), Below.refl _ _⟩
    case round =>
      obtain ⟨j, hj, rfl, hall, hBr⟩ := hrel
      have HAll := Lib.hid hall
      have HBr := Lib.hid hBr
      clear hall
      by_cases hlt : j < k.length
      · have hlt2 : j < l.length := by have := HLen.out; omega
        obtain ⟨b, o, rfl, hbl, hc⟩ := cg_at (hl.below hBr) (by omega)
        obtain ⟨b', o', rfl, hbl', hc'⟩ := cg_at (hk.below hBr) (by omega)
        obtain ⟨p0, p1, p2⟩ := hc j hlt2
        obtain ⟨q0, q1, q2⟩ := hc' j hlt
        have HE := Lib.hid (cg_ext2 (a := l[j]) (b := k[j]))
        have hjl : (j : Int) < (l.length : Int) := by omega
        have hjk : (j : Int) < (k.length : Int) := by omega
        have hj0 : (0 : Int) ≤ (j : Int) := by omega
        have HF := Lib.hid (show l[j] ≠ k[j] → r = false from fun h => by
          rw [HR.out]
          refine decide_eq_false fun e => h ?_
          subst e
          rfl)
        have HNx := Lib.hid (show l[j] = k[j] → ∀ i (h1 : i < l.length) (h2 : i < k.length), i < j + 1 → l[i] = k[i] from fun e i h1 h2 h3 => by
          by_cases h4 : i < j
          · exact HAll.out i h1 h2 h4
          · obtain rfl : i = j := by omega
            exact e)
        generalize hx : l[j] = x at *
        generalize hy : k[j] = y at *
        obtain ⟨xa, xs, xz⟩ := x
        obtain ⟨ya, ys, yz⟩ := y
        dsimp only at *
        have hBw := Lib.hid (fun n => below_drewN HBr.out n)
        clear hc hc' hx hy hBr
        rw [HLen.out] at hjl
        by_cases h1 : xa = ya
        · by_cases h2 : xs = ys
          · by_cases h3 : xz = yz
            · subst h1 h2 h3
              have HN3 := Lib.hid (HNx.out rfl)
              clear HNx HF HE
              go_wp2_with fail
              go_quiet (fail)
              go_wp2
              go_roundw
              case rel => exact ⟨j + 1, by omega, by go_num, HN3.out, hBw.out _⟩
              case measure => simp [intOf]; omega
            · have hf := HF.out (fun e => h3 (HE.out.1 e).2.2)
              subst h1 h2
              have g2 : (xz == yz) = false := by simpa using h3
              clear HNx HF HE HR
              subst hf
              go_wp2_with fail
              go_quiet (fail)
              go_wp2
              go_ret
              exact ⟨rfl, hBw.out _⟩
          · have hf := HF.out (fun e => h2 (HE.out.1 e).2.1)
            subst h1
            have g2 : (xs == ys) = false := by simpa using h2
            clear HNx HF HE HR
            subst hf
            go_wp2_with fail
            go_quiet (fail)
            go_wp2
            go_ret
            exact ⟨rfl, hBw.out _⟩
        · have hf := HF.out (fun e => h1 (HE.out.1 e).1)
          have g2 : (xa == ya) = false := by simpa using h1
          clear HNx HF HE HR
          subst hf
          go_wp2_with fail
          go_quiet (fail)
          go_wp2
          go_ret
          exact ⟨rfl, hBw.out _⟩
      · have hf : r = true := by
          rw [HR.out]
          refine decide_eq_true (List.ext_getElem HLen.out fun i h1 h2 => HAll.out i h1 h2 (by omega))
        clear HR
        subst hf
        obtain rfl : j = k.length := by omega
        go_wp2
        go_ret
        exact ⟨rfl, HBr.out⟩
  · have e : decide (l = k) = false := decide_eq_false fun h => hlen (by rw [h])
    rw [e]
    have hl2 : ((l.length : Int) == (k.length : Int)) = false := by rw [beq_eq_false_iff_ne]; omega
    clear e
    go_enter Tryz.func32, Tryz.ntmps32
    go_wp2
    go_ret
    exact ⟨rfl, hB⟩

def fewFm (l : List Fm) : Bool := (l.take 12).all (fun x => decide (x.sl.size ≤ 1024)) && decide (l.length ≤ 12)
set_option maxRecDepth 100000 in
set_option maxHeartbeats 4000000 in
theorem rfewfm_any (A : Option Addr) (n c : Nat) (l : List Fm) (w : World) (hl : shFm.In w A n l) (hn : n ≤ 9223372036854775806) :
    Calls Tryz.prog 19 #[.slice A n c] w fun e w' => e = .returned (.bool (fewFm l)) ∧ Below w.heap.size w w' := by
  obtain ⟨rfl, _⟩ := id hl
  have HL := Lib.hid hl
  have hB := Below.refl w.heap.size w
  obtain ⟨E, hE⟩ : ∃ E, fewFm l = E := ⟨_, rfl⟩
  rw [hE]
  have HE := Lib.hid hE
  clear hl hE
  go_enter Tryz.func19, Tryz.ntmps19
  go_wp2_with fail
  go_loopw [3] (fun iv wr => ∃ k : Nat, k ≤ l.length ∧ k ≤ 12 ∧ iv = .int .i64 k ∧ (∀ i (h : i < l.length), i < k → l[i].sl.size ≤ 1024) ∧ Below w.heap.size w wr) (fun iv _ => l.length - (intOf iv).toNat)
  case atStart => exact ⟨0, Nat.zero_le _, by omega, rfl, fun i _ h => absurd h (Nat.not_lt_zero _), hB⟩
  case round =>
    clear hB
    obtain ⟨k, hk, hk12, rfl, hall, hB⟩ := hrel
    have HAll := Lib.hid hall
    clear hall
    have hdone : (k = l.length ∨ k = 12) → E = decide (l.length ≤ 12) := fun h => by
      rw [← HE.out]
      unfold fewFm
      have : (l.take 12).all (fun x => decide (x.sl.size ≤ 1024)) = true := by
        rw [List.all_eq_true]
        intro x hx
        obtain ⟨i, hi, rfl⟩ := List.getElem_of_mem hx
        rw [List.length_take] at hi
        rw [List.getElem_take]
        exact decide_eq_true (HAll.out i (by omega) (by omega))
      rw [this, Bool.true_and]
    by_cases hlt : k < l.length
    case neg =>
      obtain rfl : k = l.length := by omega
      have hf := hdone (.inl rfl)
      rw [decide_eq_true hk12] at hf
      subst hf
      have g1 : (l.length : Int) ≤ 12 := by omega
      clear hdone
      go_wp2_with fail
      go_ret
      exact ⟨rfl, hB⟩
    case pos =>
      have i1 : (k : Int) < (l.length : Int) := by omega
      by_cases h12 : k < 12
      case neg =>
        obtain rfl : k = 12 := by omega
        have hf := hdone (.inr rfl)
        rw [decide_eq_false (by omega)] at hf
        subst hf
        have g1 : ¬ (l.length : Int) ≤ 12 := by omega
        have i2 : (12 : Int) < (l.length : Int) := by omega
        clear hdone
        go_wp2_with fail
        go_ret
        exact ⟨rfl, hB⟩
      case pos =>
        obtain ⟨b, o, rfl, hbl, hcell⟩ := fm_at HL.out (by omega)
        have p1 := (hB.cell (p := ⟨b, o + k * 2 + 1, none⟩) hbl).trans (hcell k hlt).2
        have hbw : b < wr.heap.size := Nat.lt_of_lt_of_le hbl hB.size
        have i0 : (0 : Int) ≤ (k : Int) := by omega
        have i2 : (k : Int) < 12 := by omega
        have w0 : IntKind.i64.wrap ((k : Int) + 1) = (k : Int) + 1 := IntWalk.i64_in _ (by omega)
        have HNo := Lib.hid (fun (h : ¬ l[k].sl.size ≤ 1024) => show E = false from by
          rw [← HE.out]
          unfold fewFm
          rw [Bool.and_eq_false_iff]
          refine .inl (List.all_eq_false.2 ⟨l[k], ?_, by simpa using h⟩)
          rw [← List.getElem_take (j := 12) (h := by rw [List.length_take]; omega)]
          exact List.getElem_mem _)
        have HYes := Lib.hid (fun (h : l[k].sl.size ≤ 1024) => show ∀ i (h : i < l.length), i < k + 1 → l[i].sl.size ≤ 1024 from fun i hi hik => by
          rcases Nat.lt_or_eq_of_le (Nat.le_of_lt_succ hik) with h2 | h2
          · exact HAll.out i hi h2
          · subst h2; exact h)
        clear hcell hdone
        generalize l[k].sl = s at *
        by_cases hsz : s.size ≤ 1024
        · have HN := Lib.hid (HYes.out hsz)
          have g1 : ¬ (1024 : Int) < (s.size : Int) := by omega
          go_wp2_with fail
          go_roundw
          case rel => exact ⟨k + 1, hlt, by omega, by go_num, HN.out, hB⟩
          case measure => simp [intOf]; omega
        · have hf := HNo.out hsz
          subst hf
          have g1 : (1024 : Int) < (s.size : Int) := by omega
          go_wp2_with fail
          go_ret
          exact ⟨rfl, hB⟩
end Go.Proofs.YtppehllccdjfkaaGreatDoor

namespace Go.Proofs.YtppehllccdjfkaaGreatDoor
open Go.RowKit

set_option maxHeartbeats 2000000 in
theorem uSame_any (A B : Option Addr) (n m c d : Nat) (l k : List Fm) (w : World) (hl : shFm.In w A n l) (hk : shFm.In w B m k) (hn : n ≤ 9223372036854775807) (hm : m ≤ 9223372036854775807) :
    Calls Tryz.prog 26 #[.slice A n c, .slice B m d] w fun e w' => e = .returned (.bool (decide (l = k))) ∧ Below w.heap.size w w' := by
  have hB := Below.refl w.heap.size w
  have HE := Lib.hid (uequal_any A B n m c d l k w hl hk hn hm)
  generalize decide (l = k) = q at *
  clear hl hk
  go_enter Tryz.func26, Tryz.ntmps26
  go_wp2_with fail
  refine HE.out.mono ?_
  rintro e wk ⟨rfl, hb⟩
  replace hB := hB.trans (hb.mono hB.size)
  clear hb
  go_wp2_with fail
  go_ret
  exact ⟨rfl, hB⟩
set_option maxRecDepth 100000 in
set_option maxHeartbeats 8000000 in
theorem lchanges_any (A : Option Addr) (n c : Nat) (l : List Cg) (w : World) (hl : shCg.In w A n l) (hn : n ≤ 100000) :
    Calls Tryz.prog 29 #[.slice A n c] w fun e w' => ∃ r, e = .returned r ∧ shCg.Out 130 l w r w' := by
  obtain ⟨rfl, _⟩ := id hl
  have hB := Below.refl w.heap.size w
  have HL := Lib.hid hl
  have HB := Lib.hid hB
  clear hl
  go_enter Tryz.func29, Tryz.ntmps29
  go_wp2_with fail
  go_loopw [3, 8] (fun vo iv wr => ∃ k : Nat, k ≤ l.length ∧ iv = .int .i64 k ∧ wr.ownsRow w.heap.size 130 3 vo k (shCg.vs (l.take k)) ∧ Below w.heap.size w wr) (fun _ iv _ => l.length - (intOf iv).toNat)
  case atStart => exact ⟨0, Nat.zero_le _, rfl, World.ownsRow_nil _ _ _ _, HB.out⟩
  case round =>
    obtain ⟨k, hk, rfl, hown, hb⟩ := hrel
    have Hb := Lib.hid hb
    obtain ⟨Ao, co, rfl⟩ := own_form hown
    by_cases hlt : k < l.length
    case neg =>
      obtain rfl : k = l.length := by omega
      rw [List.take_length] at hown
      have HOw := Lib.hid hown
      clear hown hb
      go_wp2_with fail
      go_ret
      exact ⟨_, rfl, Ao, co, rfl, HOw.out, Hb.out⟩
    case pos =>
      obtain ⟨b, o, rfl, hbl, hcell⟩ := cg_at HL.out (by omega)
      obtain ⟨k0, k1, k2⟩ := hcell k hlt
      have p0 := (hb.cell (p := ⟨b, o + k * 3, none⟩) hbl).trans k0
      have p1 := (hb.cell (p := ⟨b, o + k * 3 + 1, none⟩) hbl).trans k1
      have p2 := (hb.cell (p := ⟨b, o + k * 3 + 2, none⟩) hbl).trans k2
      have hbw : b < wr.heap.size := Nat.lt_of_lt_of_le hbl hb.size
      have i0 : (0 : Int) ≤ (k : Int) := by omega
      have i1 : (k : Int) < (l.length : Int) := by omega
      have w0 : IntKind.i64.wrap ((k : Int) + 1) = (k : Int) + 1 := IntWalk.i64_in _ (by omega)
      have hst := shCg.vs_take l k hlt
      have HSt := Lib.hid hst
      clear hcell k0 k1 k2 hst
      generalize l[k] = x at *
      obtain ⟨xu, xa, xb⟩ := x
      dsimp only at p0 p1 p2
      have HSt2 := Lib.hid (show shCg.vs (l.take (k + 1)) = shCg.vs (l.take k) ++ [.int .i64 xu, .int .i64 xa, .int .i64 xb] from HSt.out)
      have ha : Below wr.heap.size wr (wr.alloc (.cells #[.int .i64 xu, .int .i64 xa, .int .i64 xb] 71)) := (Below.refl _ _).alloc (Nat.le_refl _) _
      have hown2 := own_below hown ha
      have Hb2 := Lib.hid (hb.trans (ha.mono hb.size))
      have hsz : w.heap.size ≤ wr.heap.size := hb.size
      have hsz2 : w.heap.size ≤ (wr.alloc (.cells #[.int .i64 xu, .int .i64 xa, .int .i64 xb] 71)).heap.size := Hb2.out.size
      clear HSt hown ha hb
      go_wp2_with (at_builtin; refine wpList_push rfl _ _ _ rfl w.heap.size _ _ 3 24 Tryz.underlying55 infoCr rfl (by omega) _ k (shCg.vs (l.take k)) rfl hown2 [.int .i64 xu, .int .i64 xa, .int .i64 xb] _ _ _ rfl (by first | rfl | simp) rfl (cg_one _ _ _) (by unfold maxLen; omega) (by omega) (by first | omega | (simp; omega) | simp) ?_; intro g cap w1 hown1 hg1)
      go_roundw
      case rel => exact ⟨k + 1, hlt, by go_num, by rw [HSt2.out]; exact hown1, below_push Hb2.out (Nat.le_refl _) hown2 hg1⟩
      case measure => simp [intOf]; omega
set_option maxRecDepth 100000 in
set_option maxHeartbeats 16000000 in
theorem rDiff_any (A : Option Addr) (n c : Nat) (A' : Option Addr) (n' c' : Nat) (a b : List Fm) (w : World) (ha : shFm.In w A n a) (hb : shFm.In w A' n' b) (hra : rightE a = 0) (hrb : rightE b = 0) (hlen : a.length = b.length) :
    Calls Tryz.prog 74 #[.slice A n c, .slice A' n' c'] w fun e w' => ∃ r, e = .returned r ∧ shCg.Out 130 (difA a b a.length) w r w' := by
  obtain ⟨rfl, _⟩ := id ha
  obtain ⟨rfl, _⟩ := id hb
  have hB := Below.refl w.heap.size w
  have HA := Lib.hid ha
  have HB := Lib.hid hb
  have HBr := Lib.hid hB
  obtain ⟨ha8, hga⟩ := frs_all hra
  obtain ⟨hb8, hgb⟩ := frs_all hrb
  have HLen := Lib.hid hlen
  have HGA := Lib.hid (fun i (h : i < a.length) => show a[i].sl.size = 512 from by have := (rg_ok (hga i h)).2.2.1; rw [getD_of h] at this; exact this)
  have HGB := Lib.hid (fun i (h : i < b.length) => show b[i].sl.size = 512 from by have := (rg_ok (hgb i h)).2.2.1; rw [getD_of h] at this; exact this)
  clear ha hb hra hrb hga hgb hlen hB
  go_enter Tryz.func74, Tryz.ntmps74
  go_wp2_with fail
  go_loopw [5, 6] (fun vo iv wr => ∃ i : Nat, i ≤ a.length ∧ iv = .int .i64 i ∧ wr.ownsRow w.heap.size 130 3 vo (difA a b i).length (shCg.vs (difA a b i)) ∧ Below w.heap.size w wr) (fun _ iv _ => a.length - (intOf iv).toNat)
  case atStart => exact ⟨0, Nat.zero_le _, rfl, World.ownsRow_nil _ _ _ _, HBr.out⟩
  case round =>
    obtain ⟨i, hi, rfl, hown, hb⟩ := hrel
    have Hb := Lib.hid hb
    obtain ⟨Ao, co, rfl⟩ := own_form hown
    have HOw := Lib.hid hown
    by_cases hlt : i < a.length
    case neg =>
      obtain rfl : i = a.length := by omega
      clear hown hb
      go_wp2_with fail
      go_ret
      exact ⟨_, rfl, Ao, co, rfl, HOw.out, Hb.out⟩
    case pos =>
      have hlt2 : i < b.length := by have := HLen.out; omega
      obtain ⟨b1, o1, rfl, hb1, hc1⟩ := fm_at HA.out (by omega)
      obtain ⟨b2, o2, rfl, hb2, hc2⟩ := fm_at HB.out (by omega)
      have HC1 := Lib.hid (hc1 i hlt)
      have HC2 := Lib.hid (hc2 i hlt2)
      have i0 : (0 : Int) ≤ (i : Int) := by omega
      have i1 : (i : Int) < (a.length : Int) := by omega
      have i2 : (i : Int) < (b.length : Int) := by omega
      have w0 : IntKind.i64.wrap ((i : Int) + 1) = (i : Int) + 1 := IntWalk.i64_in _ (by omega)
      have hst : difA a b (i + 1) = difA a b i ++ difR a[i] b[i] 512 := by rw [difA, getD_of hlt, getD_of hlt2]
      have HSt := Lib.hid hst
      have hsza := HGA.out i hlt
      have hszb := HGB.out i hlt2
      have hdl := difA_len a b i
      have hdl2 : (difA a b i).length ≤ 3584 := by omega
      clear hst hc1 hc2 hown hdl hb
      generalize a[i] = f at *
      generalize b[i] = g at *
      generalize difA a b i = D at *
      obtain ⟨fu, fs⟩ := f
      obtain ⟨gu, gs⟩ := g
      dsimp only at HC1 HC2 hsza hszb
      go_wp2_with fail
      go_loopw [5, 7] (fun vo iv w3 => ∃ k : Nat, k ≤ 512 ∧ iv = .int .i64 k ∧ w3.ownsRow w.heap.size 130 3 vo (D ++ difR ⟨fu, fs⟩ ⟨gu, gs⟩ k).length (shCg.vs (D ++ difR ⟨fu, fs⟩ ⟨gu, gs⟩ k)) ∧ Below w.heap.size w w3) (fun _ iv _ => 512 - (intOf iv).toNat)
      case atStart => exact ⟨0, Nat.zero_le _, rfl, by simpa [difR] using HOw.out, Hb.out⟩
      case round =>
        obtain ⟨k, hk, rfl, hown, hb3⟩ := hrel
        have Hb3 := Lib.hid hb3
        obtain ⟨Ao2, co2, rfl⟩ := own_form hown
        have HOw3 := Lib.hid hown
        obtain ⟨x0, x1⟩ := HC1.out
        obtain ⟨y0, y1⟩ := HC2.out
        have HKp := Lib.hid (fun (w' : World) (h : Below w.heap.size w w') => show w'.cell? ⟨b1, o1 + i * 2, none⟩ = some (.int .i64 fu) ∧ w'.cell? ⟨b1, o1 + i * 2 + 1, none⟩ = some (.string fs) ∧ w'.cell? ⟨b2, o2 + i * 2 + 1, none⟩ = some (.string gs) from ⟨(h.cell (p := ⟨b1, o1 + i * 2, none⟩) hb1).trans x0, (h.cell (p := ⟨b1, o1 + i * 2 + 1, none⟩) hb1).trans x1, (h.cell (p := ⟨b2, o2 + i * 2 + 1, none⟩) hb2).trans y1⟩)
        have n1 : b1 < wr.heap.size := Nat.lt_of_lt_of_le hb1 hb3.size
        have n2 : b2 < wr.heap.size := Nat.lt_of_lt_of_le hb2 hb3.size
        clear x0 x1 y0 y1
        obtain ⟨p0, p1, q1⟩ := HKp.out _ hb3
        by_cases hlt3 : k < 512
        case neg =>
          obtain rfl : k = 512 := by omega
          clear hown hb3
          go_wp2_with fail
          go_roundw
          case rel => exact ⟨i + 1, by omega, by go_num, by rw [HSt.out]; exact HOw3.out, Hb3.out⟩
          case measure => simp [intOf]; omega
        case pos =>
          have j0 : (0 : Int) ≤ (k : Int) := by omega
          have j1 : (k : Int) < 512 := by omega
          have j2 : (k : Int) < (fs.size : Int) := by omega
          have j3 : (k : Int) < (gs.size : Int) := by omega
          have w1 : IntKind.i64.wrap ((k : Int) + 1) = (k : Int) + 1 := IntWalk.i64_in _ (by omega)
          have hkf : k < fs.size := by omega
          have hkg : k < gs.size := by omega
          have hst : difR ⟨fu, fs⟩ ⟨gu, gs⟩ (k + 1) = difR ⟨fu, fs⟩ ⟨gu, gs⟩ k ++ (if gs[k] = fs[k] then [] else [⟨fu, (k : Int) + 1, (gs[k].toNat : Int)⟩]) := by
            rw [difR, at_get (f := ⟨fu, fs⟩) (by exact hkf), at_get (f := ⟨gu, gs⟩) (by exact hkg)]
          have hrl := difR_len ⟨fu, fs⟩ ⟨gu, gs⟩ k
          obtain ⟨c1, hc1⟩ : ∃ c1, fs[k] = c1 := ⟨_, rfl⟩
          obtain ⟨d1, hd1⟩ : ∃ d1, gs[k] = d1 := ⟨_, rfl⟩
          rw [hc1, hd1] at hst
          by_cases hdc : d1 = c1
          · subst hdc
            rw [if_pos rfl, List.append_nil] at hst
            have HSt3 := Lib.hid hst
            have g1 : ((d1.toNat : Int) != (d1.toNat : Int)) = false := by simp
            clear hst hown hb3 hrl
            go_wp2_with fail
            go_quiet (fail)
            go_wp2_with fail
            go_roundw
            case rel => exact ⟨k + 1, by omega, by go_num, by rw [HSt3.out]; exact own_below HOw3.out (below_drewN (Below.refl _ _) _), below_drewN Hb3.out _⟩
            case measure => simp [intOf]; omega
          · rw [if_neg hdc] at hst
            have g1 : ((c1.toNat : Int) == (d1.toNat : Int)) = false := by
              rw [beq_eq_false_iff_ne]
              intro h
              exact hdc (UInt8.toNat_inj.1 (by omega))
            have g2 : ((c1.toNat : Int) != (d1.toNat : Int)) = true := by rw [bne, g1]; rfl
            have w2 : IntKind.i64.wrap (d1.toNat : Int) = (d1.toNat : Int) := IntWalk.i64_in _ (by have := d1.toNat_lt; omega)
            have hvs : shCg.vs (D ++ difR ⟨fu, fs⟩ ⟨gu, gs⟩ (k + 1)) = shCg.vs (D ++ difR ⟨fu, fs⟩ ⟨gu, gs⟩ k) ++ [.int .i64 fu, .int .i64 ((k : Int) + 1), .int .i64 (d1.toNat : Int)] := by rw [hst, ← List.append_assoc, Sh.vs_append, Sh.vs_one1]; rfl
            have hln : (D ++ difR ⟨fu, fs⟩ ⟨gu, gs⟩ (k + 1)).length = (D ++ difR ⟨fu, fs⟩ ⟨gu, gs⟩ k).length + 1 := by rw [hst, ← List.append_assoc, List.length_append]; rfl
            have HSt3 := Lib.hid (And.intro hln hvs)
            have hlenD : (D ++ difR ⟨fu, fs⟩ ⟨gu, gs⟩ k).length ≤ 4096 := by rw [List.length_append]; omega
            clear hst hvs hln hb3 hrl hdc hown
            generalize D ++ difR ⟨fu, fs⟩ ⟨gu, gs⟩ k = DD at *
            go_wp2_with fail
            go_quiet (fail)
            have hb4 := below_drewN Hb3.out nq
            have hown4 := own_below HOw3.out (below_drewN (Below.refl wr.heap.size wr) nq)
            generalize wr.drewN nq = w4 at *
            have hown := own_below hown4 (Below.refl w4.heap.size w4).drew
            have hb5 := hb4.drew
            have hsz := hb5.size
            have hsz4 : w.heap.size ≤ w4.heap.size := hb4.size
            have hbd : Below w.heap.size w4 w4.drew := (Below.refl _ _).drew
            have HKq := Lib.hid (fun w' (h : Below w.heap.size w4 w') => HKp.out w' (hb4.trans h))
            obtain ⟨p0, p1, q1⟩ := HKp.out _ hb4
            clear n1 n2
            have n1 : b1 < w4.heap.size := Nat.lt_of_lt_of_le hb1 hb4.size
            have n2 : b2 < w4.heap.size := Nat.lt_of_lt_of_le hb2 hb4.size
            clear hown4
            go_wp2_with fail
            go_region_held3 (fun w' => w'.cell? ⟨b1, o1 + i * 2, none⟩ = some (.int .i64 fu) ∧ w'.cell? ⟨b1, o1 + i * 2 + 1, none⟩ = some (.string fs) ∧ w'.cell? ⟨b2, o2 + i * 2 + 1, none⟩ = some (.string gs)) (first | exact HKq.out _ (below_push hbd hsz hown hg1) | exact HKq.out _ (by (repeat (first | exact Below.refl _ _ | assumption | apply Below.drew | apply below_drewN | (refine Below.alloc ?_ (by first | omega | (simp; omega) | simp) _) | (refine Below.setCell ?_ (by first | omega | (simp; omega) | simp) _) | (refine Below.trans ?_ (Below.mono (by assumption) (by first | omega | (simp; omega) | simp))))))) ((refine step_push (by rfl) _ _ _ (by rfl) w.heap.size _ _ 3 24 Tryz.underlying55 infoCr rfl (by omega) _ DD.length (shCg.vs DD) (by rfl) hown [.int .i64 fu, .int .i64 ((k : Int) + 1), .int .i64 (d1.toNat : Int)] _ _ _ (by rfl) (by first | rfl | simp) rfl (cg_one _ _ _) (by unfold maxLen; omega) (by omega) (by first | omega | (simp; omega) | simp) ?_; intro g cap w1 hown1 hg1))
            go_wp2_with fail
            go_roundw
            case rel => exact ⟨k + 1, by omega, by go_num, by rw [HSt3.out.1, HSt3.out.2]; exact hown1, below_push hb5 (Nat.le_refl _) hown hg1⟩
            case measure => simp [intOf]; omega
end Go.Proofs.YtppehllccdjfkaaGreatDoor

namespace Go.Proofs.YtppehllccdjfkaaGreatDoor
open Go.RowKit

set_option maxRecDepth 100000 in
set_option maxHeartbeats 16000000 in
theorem rChanges_any (A : Option Addr) (n c : Nat) (A' : Option Addr) (n' c' : Nat) (a b : List Fm) (w : World) (ha : shFm.In w A n a) (hb : shFm.In w A' n' b) (hn : n ≤ 9223372036854775806) (hn' : n' ≤ 9223372036854775806) (hsa : ∀ x ∈ a, x.sl.size ≤ 9223372036854775807) (hsb : ∀ x ∈ b, x.sl.size ≤ 9223372036854775807) :
    Calls Tryz.prog 31 #[.slice A n c, .slice A' n' c'] w fun e w' => ∃ r, e = .returned (.tuple #[r, .int .i64 (chgE a b)]) ∧ shCg.Out 130 (chgV a b) w r w' := by
  obtain ⟨rfl, _⟩ := id ha
  obtain ⟨rfl, _⟩ := id hb
  have hB := Below.refl w.heap.size w
  have hE : chgE a b = if rightE a ≠ 0 then rightE a else if rightE b ≠ 0 then rightE b else if eqU a b = false then 14 else 0 := rfl
  have hV : chgV a b = if chgE a b ≠ 0 then [] else difA a b a.length := rfl
  have HRa := Lib.hid (fun w h => rright_any A a.length c a w h hn hsa)
  have HRb := Lib.hid (fun w h => rright_any A' b.length c' b w h hn' hsb)
  have HDf := Lib.hid (fun w h1 h2 h3 h4 h5 => rDiff_any A a.length c A' b.length c' a b w h1 h2 h3 h4 h5)
  have HA := Lib.hid ha
  have HB := Lib.hid hb
  generalize chgV a b = V at *
  generalize chgE a b = E at *
  have HVV := Lib.hid hV
  have HEE := Lib.hid hE
  clear ha hb hE hV hsa hsb
  by_cases hra : rightE a = 0
  case neg =>
    have hE := HEE.out
    rw [if_pos hra] at hE
    have hV0 : V = [] := by rw [HVV.out, if_pos (by rw [hE]; exact hra)]
    generalize rightE a = q at *
    subst hE hV0
    have g1 : (E == 0) = false := by simpa using hra
    have g2 : (E != 0) = true := by simpa using hra
    go_enter Tryz.func31, Tryz.ntmps31
    go_wp2_with fail
    refine (HRa.out _ (HA.out.below hB)).mono ?_
    rintro e wk ⟨rfl, hb⟩
    replace hB := hB.trans (hb.mono hB.size)
    clear hb
    go_wp2_with fail
    go_ret2
    exact ⟨_, rfl, Sh.Out.nil hB⟩
  by_cases hrb : rightE b = 0
  case neg =>
    have hE := HEE.out
    rw [if_neg (fun h => h hra), if_pos hrb] at hE
    have hV0 : V = [] := by rw [HVV.out, if_pos (by rw [hE]; exact hrb)]
    rw [hra] at HRa
    generalize rightE b = q at *
    subst hE hV0
    have g1 : (E == 0) = false := by simpa using hrb
    have g2 : (E != 0) = true := by simpa using hrb
    clear hra
    go_enter Tryz.func31, Tryz.ntmps31
    go_wp2_with fail
    refine (HRa.out _ (HA.out.below hB)).mono ?_
    rintro e wk ⟨rfl, hb⟩
    replace hB := hB.trans (hb.mono hB.size)
    clear hb
    go_wp2_with fail
    refine (HRb.out _ (HB.out.below hB)).mono ?_
    rintro e wk ⟨rfl, hb⟩
    replace hB := hB.trans (hb.mono hB.size)
    clear hb
    go_wp2_with fail
    go_ret2
    exact ⟨_, rfl, Sh.Out.nil hB⟩
  have hE := HEE.out
  rw [if_neg (fun h => h hra), if_neg (fun h => h hrb)] at hE
  replace HEE := Lib.hid hE
  have HR0 := Lib.hid hra
  have HR1 := Lib.hid hrb
  rw [hra] at HRa
  rw [hrb] at HRb
  clear hra hrb hE
  by_cases hlen : a.length = b.length
  case neg =>
    have hE := HEE.out
    rw [if_pos (by unfold eqU; rw [decide_eq_false hlen]; rfl)] at hE
    have hV0 : V = [] := by rw [HVV.out, if_pos (by rw [hE]; decide)]
    subst hE hV0
    have g1 : ((a.length : Int) == (b.length : Int)) = false := by rw [beq_eq_false_iff_ne]; omega
    have g2 : ((a.length : Int) != (b.length : Int)) = true := by rw [bne, g1]; rfl
    clear hlen
    go_enter Tryz.func31, Tryz.ntmps31
    go_wp2_with fail
    refine (HRa.out _ (HA.out.below hB)).mono ?_
    rintro e wk ⟨rfl, hb⟩
    replace hB := hB.trans (hb.mono hB.size)
    clear hb
    go_wp2_with fail
    refine (HRb.out _ (HB.out.below hB)).mono ?_
    rintro e wk ⟨rfl, hb⟩
    replace hB := hB.trans (hb.mono hB.size)
    clear hb
    go_wp2_with fail
    go_ret2
    exact ⟨_, rfl, Sh.Out.nil hB⟩
  have g1 : ((a.length : Int) == (b.length : Int)) = true := by rw [beq_iff_eq]; omega
  have g2 : ((a.length : Int) != (b.length : Int)) = false := by rw [bne, g1]; rfl
  have HLen := Lib.hid hlen
  clear hlen
  go_enter Tryz.func31, Tryz.ntmps31
  go_wp2_with fail
  refine (HRa.out _ (HA.out.below hB)).mono ?_
  rintro e wk ⟨rfl, hb⟩
  replace hB := hB.trans (hb.mono hB.size)
  clear hb
  go_wp2_with fail
  refine (HRb.out _ (HB.out.below hB)).mono ?_
  rintro e wk ⟨rfl, hb⟩
  replace hB := hB.trans (hb.mono hB.size)
  clear hb
  go_wp2_with fail
  have HB0 := Lib.hid hB
  clear hB
  go_loopw [8] (fun iv wr => ∃ k : Nat, k ≤ a.length ∧ iv = .int .i64 k ∧ (∀ i, i < k → (a.getD i fm0).un = (b.getD i fm0).un) ∧ Below w.heap.size w wr) (fun iv _ => a.length - (intOf iv).toNat)
  case atStart => exact ⟨0, Nat.zero_le _, rfl, fun i h => absurd h (Nat.not_lt_zero _), HB0.out⟩
  case round =>
    obtain ⟨k, hk, rfl, hall, hB⟩ := hrel
    have HAll := Lib.hid hall
    clear hall
    by_cases hlt : k < a.length
    case neg =>
      obtain rfl : k = a.length := by omega
      have hE := HEE.out
      rw [eqU_yes HLen.out HAll.out, if_neg (by decide)] at hE
      have hV0 : V = difA a b a.length := by rw [HVV.out, if_neg (fun h => h hE)]
      have HV0 := Lib.hid hV0
      subst hE
      clear hV0
      go_wp2_with fail
      refine (HDf.out _ (HA.out.below hB) (HB.out.below hB) HR0.out HR1.out HLen.out).mono ?_
      rintro e w5 ⟨r, rfl, A5, c5, rfl, ho, hb⟩
      have HOut := Lib.hid (Sh.Out.up (⟨A5, c5, rfl, ho, hb⟩ : shCg.Out 130 (difA a b a.length) _ _ w5) hB)
      clear ho hb
      go_wp2_with fail
      go_ret2
      exact ⟨_, rfl, by rw [HV0.out]; exact HOut.out⟩
    case pos =>
      have hlt2 : k < b.length := by have := HLen.out; omega
      obtain ⟨b1, o1, rfl, hb1, hc1⟩ := fm_at HA.out (by omega)
      obtain ⟨b2, o2, rfl, hb2, hc2⟩ := fm_at HB.out (by omega)
      have p0 := (hB.cell (p := ⟨b1, o1 + k * 2, none⟩) hb1).trans (hc1 k hlt).1
      have q0 := (hB.cell (p := ⟨b2, o2 + k * 2, none⟩) hb2).trans (hc2 k hlt2).1
      have n1 : b1 < wr.heap.size := Nat.lt_of_lt_of_le hb1 hB.size
      have n2 : b2 < wr.heap.size := Nat.lt_of_lt_of_le hb2 hB.size
      have i0 : (0 : Int) ≤ (k : Int) := by omega
      have i1 : (k : Int) < (a.length : Int) := by omega
      have i2 : (k : Int) < (b.length : Int) := by omega
      have w0 : IntKind.i64.wrap ((k : Int) + 1) = (k : Int) + 1 := IntWalk.i64_in _ (by omega)
      have HNo := Lib.hid (fun (h : ¬ (a.getD k fm0).un = (b.getD k fm0).un) => eqU_no hlt h)
      have HYes := Lib.hid (fun (h : (a.getD k fm0).un = (b.getD k fm0).un) => show ∀ i, i < k + 1 → (a.getD i fm0).un = (b.getD i fm0).un from fun i hi => by
        rcases Nat.lt_or_eq_of_le (Nat.le_of_lt_succ hi) with h2 | h2
        · exact HAll.out i h2
        · subst h2; exact h)
      rw [getD_of hlt, getD_of hlt2] at HNo HYes
      clear hc1 hc2
      generalize a[k].un = u at *
      generalize b[k].un = v at *
      by_cases hu : u = v
      · have HN := Lib.hid (HYes.out hu)
        have e1 : (u == v) = true := by simpa using hu
        have e2 : (u != v) = false := by simpa using hu
        clear hu
        go_wp2_with fail
        go_quiet (fail)
        go_wp2_with fail
        go_roundw
        case rel => exact ⟨k + 1, hlt, by go_num, HN.out, below_drewN hB _⟩
        case measure => simp [intOf]; omega
      · have he := HNo.out hu
        have hE := HEE.out
        rw [he, if_pos rfl] at hE
        have hV0 : V = [] := by rw [HVV.out, if_pos (by rw [hE]; decide)]
        subst hE hV0
        have e1 : (u == v) = false := by simpa using hu
        have e2 : (u != v) = true := by simpa using hu
        clear hu
        go_wp2_with fail
        go_quiet (fail)
        go_wp2_with fail
        go_ret2
        exact ⟨_, rfl, Sh.Out.nil (below_drewN hB _)⟩
end Go.Proofs.YtppehllccdjfkaaGreatDoor
