/- Contracts of the reader's methods: blanks, channel, thru, term; and of within. -/
import Derived.Test.YteaofninjbhiaaaDoorPlainP
import Derived.Test.YteaofninjbhiaaaDoorRefOps
namespace Go.Proofs.YteaofninjbhiaaaDoor
open Go.RowKit

/-- block g is a reader: its text, its offset, its error -/
def Rd (w : World) (g : Nat) (s : ByteArray) (k : Nat) (e : Int) : Prop := w.heap[g]? = some (.cells #[.string s, .int .i64 (k : Int), .int .i64 e] 76 (0, 0))
section
variable {w w' : World} {g : Nat} {s : ByteArray} {k : Nat} {e : Int}
theorem Rd.lt (h : Rd w g s k e) : g < w.heap.size := (Array.getElem?_eq_some_iff.1 h).1
theorem Rd.cells (h : Rd w g s k e) : w.cell? ⟨g, 0, none⟩ = some (.string s) ∧ w.cell? ⟨g, 1, none⟩ = some (.int .i64 (k : Int)) ∧ w.cell? ⟨g, 2, none⟩ = some (.int .i64 e) :=
  ⟨cell_of_row w g 0 _ _ _ h, cell_of_row w g 1 _ _ _ h, cell_of_row w g 2 _ _ _ h⟩
theorem Rd.frozen (h : Rd w g s k e) (i : Nat) : w.frozen? ⟨g, i, none⟩ = false := frozen_of_row w g i _ _ h
theorem Rd.of_block (h : Rd w g s k e) (hb : w'.heap[g]? = w.heap[g]?) : Rd w' g s k e := hb.trans h
theorem Rd.alloc (h : Rd w g s k e) (o : Obj) : Rd (w.alloc o) g s k e := h.of_block (Below.heap_alloc _ _ _ h.lt)
theorem Rd.below {B : Nat} (h : Rd w g s k e) (hb : Below B w w') (hB : g < B) : Rd w' g s k e := h.of_block (hb.block g hB)
theorem Rd.at_ (h : Rd w g s k e) (k' : Nat) : Rd (w.setCell ⟨g, 1, none⟩ (.int .i64 (k' : Int))) g s k' e := by
  unfold Rd at h ⊢
  simp [World.setCell, Array.getElem?_modify, h]
theorem Rd.err (h : Rd w g s k e) (e' : Int) : Rd (w.setCell ⟨g, 2, none⟩ (.int .i64 e')) g s k e' := by
  unfold Rd at h ⊢
  simp [World.setCell, Array.getElem?_modify, h]
end
theorem only_drewN {a w : World} {row : Option Nat} (h : a.grownBy w row) (n : Nat) : a.grownBy (w.drewN n) row := ⟨h.os, h.tape, h.output, h.size, h.block⟩
/-- the offset of the reader in block g -/
def atOf (g : Nat) (w : World) : Nat := match w.cell? ⟨g, 1, none⟩ with
  | some (.int _ n) => n.toNat
  | _ => 0
theorem Rd.atOf {w : World} {g : Nat} {s : ByteArray} {k : Nat} {e : Int} (h : Rd w g s k e) : atOf g w = k := by unfold Proofs.YteaofninjbhiaaaDoor.atOf; rw [h.cells.2.1]; simp
theorem bytes_at (s : ByteArray) {k : Nat} (h : k < s.size) : s.data.toList[k]? = some s[k] := by
  have : k < s.data.toList.length := by simpa using h
  rw [List.getElem?_eq_getElem this]; rfl
theorem bytes_len (s : ByteArray) : s.data.toList.length = s.size := by simp

theorem skip_yes {s : ByteArray} {k : Nat} (h : k < s.size) (hc : ((s[k].toNat : Int) == 32) = true) : skipAt s.data.toList k = skipAt s.data.toList (k + 1) := by
  have hl : k < s.data.toList.length := by simpa using h
  refine skipAt_yes hl ?_
  have h2 : (s[k].toNat : Int) = 32 := by simpa using hc
  have : s.data.toList[k] = s[k] := rfl
  rw [this]
  exact UInt8.toNat_inj.1 (by simp; omega)
theorem skip_no {s : ByteArray} {k : Nat} (h : k < s.size) (hc : ((s[k].toNat : Int) == 32) = false) : skipAt s.data.toList k = k := by
  have hl : k < s.data.toList.length := by simpa using h
  refine skipAt_no hl ?_
  have : s.data.toList[k] = s[k] := rfl
  rw [this]
  intro h2
  rw [h2] at hc
  simp at hc

set_option maxHeartbeats 1000000 in
theorem blanks_any (g : Nat) (s : ByteArray) (k0 : Nat) (e : Int) (w : World) (hr : Rd w g s k0 e) (hk0 : k0 ≤ s.size) (hs : s.size ≤ 100000) :
    Calls Tryd.prog 43 #[.pointer (some ⟨g, 0, none⟩)] w fun r w' => r = .returned (.tuple #[]) ∧ Rd w' g s (skipAt s.data.toList k0) e ∧ w.grownBy w' (some g) := by
  go_enter Tryd.func43, Tryd.ntmps43
  go_wp2
  go_loopw [2] (fun _ wr => ∃ k : Nat, k ≤ s.size ∧ skipAt s.data.toList k = skipAt s.data.toList k0 ∧ Rd wr g s k e ∧ w.grownBy wr (some g)) (fun _ wr => s.size - atOf g wr)
  case atStart => exact ⟨k0, hk0, rfl, hr, World.grownBy.refl _ _⟩
  case round =>
    obtain ⟨k, hk, hsk, hrd, hg⟩ := hrel
    have Hsk := Lib.hid hsk
    clear hsk hr
    obtain ⟨hc0, hc1, hc2⟩ := hrd.cells
    have hf1 := hrd.frozen 1
    by_cases hlt : k < s.size
    · cases hb : ((s[k].toNat : Int) == 32) with
      | true =>
        have hst := Lib.hid (skip_yes hlt hb)
        go_wp2_with fail
        go_quiet (fail)
        go_wp2
        have hrd' : Rd ((wr.drewN nq).setCell ⟨g, 1, none⟩ (.int .i64 (k + 1))) g s (k + 1) e := Rd.at_ (w := wr.drewN nq) hrd (k + 1)
        go_roundw
        case rel => exact ⟨k + 1, by omega, by rw [← hst.out]; exact Hsk.out, hrd', only_set (only_drewN hg nq) _ _⟩
        case measure => rw [hrd'.atOf, hrd.atOf]; omega
      | false =>
        have hst := Lib.hid (skip_no hlt hb)
        go_wp2_with fail
        go_quiet (fail)
        go_wp2
        go_end0
        exact ⟨rfl, by rw [← Hsk.out, hst.out]; exact hrd, only_drewN hg nq⟩
    · have hst := Lib.hid (skipAt_end (S := s.data.toList) (k := k) (by rw [bytes_len]; omega))
      go_wp2_with fail
      go_quiet (fail)
      go_wp2
      go_end0
      exact ⟨rfl, by rw [← Hsk.out, hst.out]; exact hrd, only_drewN hg nq⟩

set_option maxHeartbeats 400000 in
theorem within_any (a b c : Int) (w : World) : Calls Tryd.prog 77 #[.int .u8 a, .int .u8 b, .int .u8 c] w fun r w' => r = .returned (.bool (decide (b ≤ a ∧ a ≤ c))) ∧ w = w' := by
  by_cases h1 : b ≤ a
  · go_enter Tryd.func77, Tryd.ntmps77
    go_wp2
    go_ret
    exact ⟨ret_bool (by simp [h1]), rfl⟩
  · go_enter Tryd.func77, Tryd.ntmps77
    go_wp2
    go_ret
    exact ⟨ret_bool (by simp; omega), rfl⟩

theorem dgo_yes {s : ByteArray} {k n : Nat} (h : k < s.size) (hd : isD s[k] = true) :
    dgo n k (s.data.toList.drop k) = dgo (min (10 * n + (s[k].toNat - 48)) 1000) (k + 1) (s.data.toList.drop (k + 1)) := by
  have hl : k < s.data.toList.length := by simpa using h
  have : s.data.toList[k] = s[k] := rfl
  rw [List.drop_eq_getElem_cons hl, dgo, this, if_pos hd]
theorem dgo_no {s : ByteArray} {k n : Nat} (h : k < s.size) (hd : isD s[k] = false) : dgo n k (s.data.toList.drop k) = (n, k) := by
  have hl : k < s.data.toList.length := by simpa using h
  have : s.data.toList[k] = s[k] := rfl
  rw [List.drop_eq_getElem_cons hl, dgo, this, hd]; rfl
theorem dgo_end {s : ByteArray} {k n : Nat} (h : ¬ k < s.size) : dgo n k (s.data.toList.drop k) = (n, k) := by
  rw [List.drop_eq_nil_of_le (by simp; omega)]; rfl

theorem int_eq {a b : Int} (h : a = b) : Value.int .i64 a = .int .i64 b := by rw [h]
theorem chan_of {S : BS} {k0 k n : Nat} (h : dgo 0 k0 (S.drop k0) = (n, k)) : chan S k0 = if k = k0 then (n, k0, 4) else if rightB n n then (n, skipAt S k, 0) else (n, k0, 2) := by
  unfold chan; rw [h]
set_option maxHeartbeats 4000000 in
theorem channel_any (g : Nat) (s : ByteArray) (k0 : Nat) (w : World) (hr : Rd w g s k0 0) (hk0 : k0 ≤ s.size) (hs : s.size ≤ 100000) :
    Calls Tryd.prog 70 #[.pointer (some ⟨g, 0, none⟩)] w fun r w' => r = .returned (.int .i64 ((chan s.data.toList k0).1 : Nat)) ∧ Rd w' g s (chan s.data.toList k0).2.1 (chan s.data.toList k0).2.2 ∧ w.grownBy w' (some g) := by
  obtain ⟨hc0, hc1, hc2⟩ := hr.cells
  have hf1 := hr.frozen 1
  have hf2 := hr.frozen 2
  go_enter Tryd.func70, Tryd.ntmps70
  go_wp2
  go_loop [3, 4] (fun i v => ∃ k n : Nat, k0 ≤ k ∧ k ≤ s.size ∧ n ≤ 1000 ∧ i = .int .i64 k ∧ v = .int .i64 n ∧ dgo n k (s.data.toList.drop k) = dgo 0 k0 (s.data.toList.drop k0)) (fun i _ => s.size - (intOf i).toNat)
  case atStart => exact ⟨k0, 0, by omega, hk0, by omega, rfl, rfl, rfl⟩
  case round =>
    obtain ⟨k, n, hk, hks, hn, rfl, rfl, hd⟩ := hrel
    have Hd := Lib.hid hd
    clear hd
    by_cases hlt : k < s.size
    · cases hb : isD s[k] with
      | true =>
        have hst := Lib.hid (dgo_yes (n := n) hlt hb)
        have hbb : 48 ≤ (s[k].toNat : Int) ∧ (s[k].toNat : Int) ≤ 57 := by simpa [isD] using hb
        obtain ⟨hb1, hb2⟩ := hbb
        clear hb
        go_wp2_with (go_at_call 77; refine (within_any _ _ _ _).mono ?_; rw [show decide ((48 : Int) ≤ (s[k].toNat : Int) ∧ (s[k].toNat : Int) ≤ 57) = true from by simp [hb1, hb2]]; rintro r w1 ⟨rfl, rfl⟩)
        go_round
        case rel => exact ⟨k + 1, min (10 * n + (s[k].toNat - 48)) 1000, by omega, by omega, by omega, by go_num, int_eq (by split <;> omega), by rw [← hst.out]; exact Hd.out⟩
        case measure => simp [intOf]; omega
      | false =>
        have hex := Lib.hid (chan_of (Hd.out.symm.trans (dgo_no (n := n) hlt hb)))
        have hbd : decide ((48 : Int) ≤ (s[k].toNat : Int) ∧ (s[k].toNat : Int) ≤ 57) = false := hb
        have Hbd := Lib.hid hbd
        clear hbd hb Hd
        by_cases hkk : k = k0
        · have hkb : ((k : Int) == (k0 : Int)) = true := by simp [hkk]
          have Hkk := Lib.hid hkk
          clear hkk
          go_wp2_with (go_at_call 77; refine (within_any _ _ _ _).mono ?_; rw [Hbd.out]; rintro r w1 ⟨rfl, rfl⟩)
          go_ret
          rw [hex.out, if_pos Hkk.out]
          exact ⟨rfl, hr.err 4, only_set (World.grownBy.refl _ _) _ _⟩
        · have hkb : ((k : Int) == (k0 : Int)) = false := by simp; omega
          have Hkk := Lib.hid hkk
          clear hkk
          cases hrr : rightB (n : Int) (n : Int) with
          | true =>
            go_wp2_with (first | (go_at_call 77; refine (within_any _ _ _ _).mono ?_; rw [Hbd.out]; rintro r w1 ⟨rfl, rfl⟩) | (go_at_call 42; refine (right_any _ _ _).mono ?_; rw [hrr]; rintro r w2 ⟨rfl, hb2⟩; obtain ⟨hcc, hcf⟩ := bcell hb2; have hgl := hr.lt; have hr2 := (hr.below hb2 hgl).at_ k) | (go_at_call 43; refine (blanks_any g s k 0 _ hr2 hks hs).mono ?_; rintro r w3 ⟨rfl, hr3, hg3⟩))
            go_ret
            rw [hex.out, if_neg Hkk.out, hrr]
            exact ⟨rfl, hr3, (only_set (only_below (World.grownBy.refl _ _) hb2) _ _).trans hg3⟩
          | false =>
            go_wp2_with (first | (go_at_call 77; refine (within_any _ _ _ _).mono ?_; rw [Hbd.out]; rintro r w1 ⟨rfl, rfl⟩) | (go_at_call 42; refine (right_any _ _ _).mono ?_; rw [hrr]; rintro r w2 ⟨rfl, hb2⟩; obtain ⟨hcc, hcf⟩ := bcell hb2; have hgl := hr.lt))
            go_ret
            rw [hex.out, if_neg Hkk.out, hrr]
            exact ⟨rfl, (hr.below hb2 hgl).err 2, only_set (only_below (World.grownBy.refl _ _) hb2) _ _⟩
    · have hex := Lib.hid (chan_of (Hd.out.symm.trans (dgo_end (n := n) hlt)))
      clear Hd
      by_cases hkk : k = k0
      · have hkb : ((k : Int) == (k0 : Int)) = true := by simp [hkk]
        have Hkk := Lib.hid hkk
        clear hkk
        go_wp2_with fail
        go_ret
        rw [hex.out, if_pos Hkk.out]
        exact ⟨rfl, hr.err 4, only_set (World.grownBy.refl _ _) _ _⟩
      · have hkb : ((k : Int) == (k0 : Int)) = false := by simp; omega
        have Hkk := Lib.hid hkk
        clear hkk
        cases hrr : rightB (n : Int) (n : Int) with
        | true =>
          go_wp2_with (first | (go_at_call 42; refine (right_any _ _ _).mono ?_; rw [hrr]; rintro r w2 ⟨rfl, hb2⟩; obtain ⟨hcc, hcf⟩ := bcell hb2; have hgl := hr.lt; have hr2 := (hr.below hb2 hgl).at_ k) | (go_at_call 43; refine (blanks_any g s k 0 _ hr2 hks hs).mono ?_; rintro r w3 ⟨rfl, hr3, hg3⟩))
          go_ret
          rw [hex.out, if_neg Hkk.out, hrr]
          exact ⟨rfl, hr3, (only_set (only_below (World.grownBy.refl _ _) hb2) _ _).trans hg3⟩
        | false =>
          go_wp2_with (first | (go_at_call 42; refine (right_any _ _ _).mono ?_; rw [hrr]; rintro r w2 ⟨rfl, hb2⟩; obtain ⟨hcc, hcf⟩ := bcell hb2; have hgl := hr.lt))
          go_ret
          rw [hex.out, if_neg Hkk.out, hrr]
          exact ⟨rfl, (hr.below hb2 hgl).err 2, only_set (only_below (World.grownBy.refl _ _) hb2) _ _⟩
end Go.Proofs.YteaofninjbhiaaaDoor
