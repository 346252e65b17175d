/- Contracts of Itoa at channels, of the reference's decimal, Text and Format, and of Format. -/
import Derived.Test.YteaofninjbhiaaaDoorPlainF
import Derived.Test.YteaofninjbhiaaaDoorShelf
import Derived.Test.YteaofninjbhiaaaDoorParse
import Derived.WalkSmall
namespace Go.Proofs.YteaofninjbhiaaaDoor
open Go.RowKit

/-- the table that the library's Itoa reads is as the program's text lays it -/
def Tab (w : World) : Prop := Lib.TabIs Tryd.prog w "internal/strconv.uint64pow10" .u64 Lib.pow10Tab
theorem globTab : Tryd.prog.globalNamed "internal/strconv.uint64pow10" = some 0 := by kernel_rfl
theorem Tab.lt {w : World} (h : Tab w) : 0 < w.heap.size := by
  unfold Tab Lib.TabIs World.var? at h
  simp only [globTab, Option.bind_some] at h
  rcases Nat.lt_or_ge 0 w.heap.size with hlt | hge
  · exact hlt
  · rw [Array.getElem?_eq_none hge] at h; cases h
theorem Tab.below {w w' : World} (h : Tab w) (hb : Below w.heap.size w w') : Tab w' := var?_below hb globTab h.lt h

theorem below_grow' (w : World) (k : Nat) (os : Array Obj) : Below w.heap.size w (Sort.grow (w.drewN k) os) :=
  ⟨rfl, rfl, rfl, by simp [Sort.grow, World.drewN], fun i hi => by show (w.heap ++ os)[i]? = _; rw [Array.getElem?_append_left hi]⟩
theorem itoa_any (n : Nat) (hn : n ≤ 999) (w : World) (ht : Tab w) :
    Calls Tryd.prog 39 #[.int .i64 n] w fun e w' => e = .returned (.string ⟨(d3 n).toArray⟩) ∧ Below w.heap.size w w' := by
  refine (Tryd.strconv_Itoa (n : Int) (by omega) (by omega) w ht).mono ?_
  rintro e w' ⟨rfl, k, os, rfl⟩
  rw [itoa_d3 hn]
  exact ⟨rfl, below_grow' _ _ _⟩

theorem enc_all : ∀ d : Fin 10, Utf8.encode (48 + (d.val : Int)) = ⟨#[UInt8.ofNat (48 + d.val)]⟩ := by decide +kernel
theorem enc_digit (m : Nat) : Utf8.encode (48 + (m : Int) % 10) = ⟨#[UInt8.ofNat (48 + m % 10)]⟩ := enc_all ⟨m % 10, by omega⟩
set_option maxHeartbeats 1000000 in
theorem refDecimal_any (n : Nat) (h1 : 1 ≤ n) (hn : n ≤ 999) (w : World) :
    Calls Tryd.prog 69 #[.int .i64 n] w fun e w' => e = .returned (.string ⟨(d3 n).toArray⟩) ∧ w = w' := by
  have hd := Lib.hid (dzf_d3 h1 hn)
  go_enter Tryd.func69, Tryd.ntmps69
  go_wp2
  go_loop [0, 3] (fun i v => ∃ (f m : Nat) (s : BS), m < 10 ^ f ∧ m ≤ 999 ∧ i = .int .i64 m ∧ v = .string ⟨s.toArray⟩ ∧ dzf 3 n = dzf f m ++ s ∧ s.length ≤ 3 ∧ f + s.length = 3) (fun i _ => (intOf i).toNat)
  case atStart => exact ⟨3, n, [], by omega, hn, rfl, rfl, by simp, by simp, by simp⟩
  case round =>
    obtain ⟨f, m, s, hm, hm9, rfl, rfl, hs, hl, hfs⟩ := hrel
    by_cases h0 : 0 < m
    · have henc := enc_digit m
      obtain ⟨f, rfl⟩ : ∃ f', f = f' + 1 := by
        cases f with
        | zero => simp at hm; omega
        | succ f' => exact ⟨f', rfl⟩
      have hnext : dzf 3 n = dzf f (m / 10) ++ (UInt8.ofNat (48 + m % 10) :: s) := by
        rw [hs, dzf, if_neg (by omega)]; simp
      have hlt : m / 10 < 10 ^ f := by rw [Nat.pow_succ] at hm; omega
      have Hn := Lib.hid hnext
      have Hlt := Lib.hid hlt
      have Hfs := Lib.hid hfs
      clear hnext hs hlt hm hfs hl
      have hl : s.length ≤ 3 := by have := Hfs.out; omega
      generalize UInt8.ofNat (48 + m % 10) = c at *
      go_wp2
      go_round
      case rel => exact ⟨f, m / 10, c :: s, Hlt.out, by omega, by go_num, rfl, Hn.out, by have := Hfs.out; simp; omega, by have := Hfs.out; simp; omega⟩
      case measure => simp [intOf]; omega
    · have hm0 : m = 0 := by omega
      have hfin : s = d3 n := by rw [← hd.out, hs, hm0]; cases f <;> simp [dzf]
      have Hf := Lib.hid hfin
      clear hfin hs hm0
      go_wp2
      go_ret
      exact ⟨by rw [← Hf.out]; rfl, rfl⟩

theorem app_data (a b : ByteArray) : (a ++ b).data.toList = a.data.toList ++ b.data.toList := by simp
theorem bs_of {a : ByteArray} {l : BS} (h : a.data.toList = l) : a = ⟨l.toArray⟩ := by
  obtain ⟨⟨x⟩⟩ := a
  simp at h
  rw [h]
theorem sz_of {a : ByteArray} {l : RL} {k : Nat} (h : a.data.toList = fmtL (l.take k)) : a.size ≤ 15 * k := by
  have h1 : a.data.toList.length = a.size := by simp
  have h2 := fmt_length (l.take k)
  have h3 := List.length_take_le k l
  rw [h] at h1
  omega
set_option maxHeartbeats 4000000 in
theorem refText_any (A : Option Addr) (n c : Nat) (l : RL) (w : World) (hl : Rs w A n l) (hn : n ≤ 100000) (hr : ∀ r ∈ l, 1 ≤ r.1 ∧ r.1 ≤ r.2 ∧ r.2 ≤ 999) :
    Calls Tryd.prog 41 #[.slice A n c] w fun e w' => e = .returned (.string ⟨(fmtL l).toArray⟩) ∧ Below w.heap.size w w' := by
  obtain ⟨rfl, _⟩ := id hl
  have HR := Lib.hid hr
  clear hr
  go_enter Tryd.func41, Tryd.ntmps41
  go_wp2
  go_loopw [3, 4] (fun v i wr => ∃ (k : Nat) (S : ByteArray), k ≤ l.length ∧ i = .int .i64 k ∧ v = .string S ∧ S.data.toList = fmtL (l.take k) ∧ S.size ≤ 15 * k ∧ Below w.heap.size w wr) (fun _ i _ => l.length - (intOf i).toNat)
  case atStart => exact ⟨0, ⟨#[]⟩, Nat.zero_le _, rfl, rfl, by simp [fmtL, Lib.join_nil], Nat.zero_le _, Below.refl _ _⟩
  case round =>
    obtain ⟨k, S, hk, rfl, rfl, hS, hSz, hb⟩ := hrel
    have HS := Lib.hid hS
    clear hS
    by_cases hlt : k < l.length
    · obtain ⟨b, o, rfl, hbl, hc1, hc2⟩ := (hl.below hb).at1 hlt
      have hrk := HR.out l[k] (List.getElem_mem hlt)
      have hsuc : Hid (fmtL (l.take (k + 1)) = (if 0 < k then fmtL (l.take k) ++ (sepP ++ item l[k]) else item l[k])) := by
        by_cases hk0 : 0 < k
        · rw [if_pos hk0]; exact fmt_next l k hlt hk0
        · obtain rfl : k = 0 := by omega
          rw [if_neg (by omega)]; exact fmt_first l hlt
      have hit : Hid (item l[k] = if l[k].1 < l[k].2 then d3 l[k].1.toNat ++ ([32, 116, 104, 114, 117, 32] ++ d3 l[k].2.toNat) else d3 l[k].1.toNat) := rfl
      obtain ⟨x, hx⟩ : ∃ x : Nat, l[k].1 = (x : Int) := ⟨l[k].1.toNat, by omega⟩
      obtain ⟨y, hy⟩ : ∃ y : Nat, l[k].2 = (y : Int) := ⟨l[k].2.toNat, by omega⟩
      rw [hx, hy] at hrk hit
      rw [Int.toNat_natCast, Int.toNat_natCast] at hit
      rw [hx] at hc1
      rw [hy] at hc2
      clear hx hy
      generalize item l[k] = I at *
      obtain ⟨hx1, hxy, hy9⟩ := hrk
      obtain ⟨D1, hD1⟩ : ∃ D1 : ByteArray, D1 = ⟨(d3 x).toArray⟩ := ⟨_, rfl⟩
      obtain ⟨D2, hD2⟩ : ∃ D2 : ByteArray, D2 = ⟨(d3 y).toArray⟩ := ⟨_, rfl⟩
      have h1 : D1.size ≤ 3 := by rw [hD1]; exact d3_length x
      have h2 : D2.size ≤ 3 := by rw [hD2]; exact d3_length y
      have hd1 := Lib.hid (show D1.data.toList = d3 x from by rw [hD1])
      have hd2 := Lib.hid (show D2.data.toList = d3 y from by rw [hD2])
      have HD1 := Lib.hid hD1
      have HD2 := Lib.hid hD2
      clear hD1 hD2
      obtain ⟨wo, rfl⟩ : ∃ wo : World, wo = wr := ⟨_, rfl⟩
      by_cases hk0 : 0 < k
      · have hk0' : (0 : Int) < (k : Int) := by omega
        have hS1 := Lib.hid (hsuc.out.trans (if_pos hk0))
        clear hsuc
        by_cases hxy' : (x : Int) < y
        · have hI := Lib.hid (hit.out.trans (if_pos hxy'))
          clear hit
          go_wp2_with fail
          refine (refDecimal_any x (by omega) (by omega) _).mono ?_
          rw [← HD1.out]
          rintro e w1 ⟨rfl, rfl⟩
          go_wp2_with fail
          go_quiet (fail)
          go_wp2_with fail
          refine (refDecimal_any y (by omega) (by omega) _).mono ?_
          rw [← HD2.out]
          rintro e w1 ⟨rfl, rfl⟩
          go_wp2_with fail
          have hdat : (S ++ ⟨#[32, 43, 32]⟩ ++ D1 ++ (⟨#[32, 116, 104, 114, 117, 32]⟩ ++ D2)).data.toList = fmtL (l.take (k + 1)) := by
            rw [hS1.out, hI.out]; simp only [app_data, HS.out, hd1.out, hd2.out]; simp [sepP]
          go_roundw
          case rel => exact ⟨k + 1, (S ++ ⟨#[32, 43, 32]⟩ ++ D1 ++ (⟨#[32, 116, 104, 114, 117, 32]⟩ ++ D2)), by omega, by go_num, rfl, hdat, sz_of hdat, below_drewN hb _⟩
          case measure => simp [intOf]; omega
        · have hI := Lib.hid (hit.out.trans (if_neg hxy'))
          clear hit
          go_wp2_with fail
          refine (refDecimal_any x (by omega) (by omega) _).mono ?_
          rw [← HD1.out]
          rintro e w1 ⟨rfl, rfl⟩
          go_wp2_with fail
          go_quiet (fail)
          go_wp2_with fail
          have hdat : (S ++ ⟨#[32, 43, 32]⟩ ++ D1).data.toList = fmtL (l.take (k + 1)) := by
            rw [hS1.out, hI.out]; simp only [app_data, HS.out, hd1.out]; simp [sepP]
          go_roundw
          case rel => exact ⟨k + 1, (S ++ ⟨#[32, 43, 32]⟩ ++ D1), by omega, by go_num, rfl, hdat, sz_of hdat, below_drewN hb _⟩
          case measure => simp [intOf]; omega
      · have hS1 := Lib.hid (hsuc.out.trans (if_neg hk0))
        clear hsuc
        obtain rfl : k = 0 := by omega
        simp only [Nat.zero_mul, Nat.add_zero] at hc1 hc2
        by_cases hxy' : (x : Int) < y
        · have hI := Lib.hid (hit.out.trans (if_pos hxy'))
          clear hit
          go_wp2_with fail
          refine (refDecimal_any x (by omega) (by omega) _).mono ?_
          rw [← HD1.out]
          rintro e w1 ⟨rfl, rfl⟩
          go_wp2_with fail
          go_quiet (fail)
          go_wp2_with fail
          refine (refDecimal_any y (by omega) (by omega) _).mono ?_
          rw [← HD2.out]
          rintro e w1 ⟨rfl, rfl⟩
          go_wp2_with fail
          have hdat : (S ++ D1 ++ (⟨#[32, 116, 104, 114, 117, 32]⟩ ++ D2)).data.toList = fmtL (l.take (0 + 1)) := by
            rw [hS1.out, hI.out]; simp only [app_data, HS.out, hd1.out, hd2.out]; simp [sepP, fmtL, Lib.join_nil]
          go_roundw
          case rel => exact ⟨0 + 1, (S ++ D1 ++ (⟨#[32, 116, 104, 114, 117, 32]⟩ ++ D2)), by omega, by go_num, rfl, hdat, sz_of hdat, below_drewN hb _⟩
          case measure => simp [intOf]; omega
        · have hI := Lib.hid (hit.out.trans (if_neg hxy'))
          clear hit
          go_wp2_with fail
          refine (refDecimal_any x (by omega) (by omega) _).mono ?_
          rw [← HD1.out]
          rintro e w1 ⟨rfl, rfl⟩
          go_wp2_with fail
          go_quiet (fail)
          go_wp2_with fail
          have hdat : (S ++ D1).data.toList = fmtL (l.take (0 + 1)) := by
            rw [hS1.out, hI.out]; simp only [app_data, HS.out, hd1.out]; simp [sepP, fmtL, Lib.join_nil]
          go_roundw
          case rel => exact ⟨0 + 1, (S ++ D1), by omega, by go_num, rfl, hdat, sz_of hdat, below_drewN hb _⟩
          case measure => simp [intOf]; omega
    · obtain rfl : k = l.length := by omega
      have hfin := Lib.hid (bs_of (a := S) (l := fmtL l) (by have := HS.out; rwa [List.take_length] at this))
      clear HS
      go_wp2
      go_ret
      rw [← hfin.out]
      exact ⟨rfl, hb⟩

set_option maxHeartbeats 1000000 in
theorem refFormat_any (A : Option Addr) (n c : Nat) (l : RL) (w : World) (hl : Rs w A n l) (hn : n ≤ 100000) :
    Calls Tryd.prog 12 #[.slice A n c] w fun e w' => e = .returned (.tuple #[.string ⟨(formatL l).1.toArray⟩, .int .i64 (formatL l).2]) ∧ Below w.heap.size w w' := by
  by_cases h0 : chk l = 0
  · have hfin := Lib.hid (show formatL l = (fmtL l, 0) from if_pos h0)
    have H0 := Lib.hid h0
    clear h0
    go_enter Tryd.func12, Tryd.ntmps12
    go_wp2_with fail
    refine (refCheck_any _ _ c l _ hl (by omega)).mono ?_
    rw [H0.out]
    rintro e w1 ⟨rfl, hb1⟩
    go_wp2_with fail
    refine (refText_any _ _ c l _ (hl.below hb1) hn (chk_ok H0.out)).mono ?_
    rintro e w2 ⟨rfl, hb2⟩
    go_wp2_with fail
    go_ret2
    rw [hfin.out]
    exact ⟨rfl, hb1.trans (hb2.mono hb1.size)⟩
  · have hfin := Lib.hid (show formatL l = ([], chk l) from if_neg h0)
    generalize hx : chk l = x at *
    have Hx := Lib.hid hx
    clear hx
    have h0' : (x != 0) = true := by simpa using h0
    clear h0
    go_enter Tryd.func12, Tryd.ntmps12
    go_wp2_with fail
    refine (refCheck_any _ _ c l _ hl (by omega)).mono ?_
    rw [Hx.out]
    rintro e w1 ⟨rfl, hb1⟩
    go_wp2_with fail
    go_ret2
    rw [hfin.out]
    exact ⟨rfl, hb1⟩
end Go.Proofs.YteaofninjbhiaaaDoor
