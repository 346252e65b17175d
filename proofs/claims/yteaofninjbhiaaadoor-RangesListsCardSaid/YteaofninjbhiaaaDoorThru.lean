/- Contracts of thru and term. -/
import Derived.Test.YteaofninjbhiaaaDoorReader
import Derived.Test.YteaofninjbhiaaaDoorPrefix
import Derived.Lib.IndexBytes
namespace Go.Proofs.YteaofninjbhiaaaDoor
open Go.RowKit

theorem or32_all : ∀ n : Fin 256, bits .or .u8 (n.val : Int) 32 = ((UInt8.ofNat n.val ||| 32).toNat : Int) := by decide +kernel
theorem or32 (c : UInt8) : bits .or .u8 (c.toNat : Int) 32 = ((c ||| 32).toNat : Int) := by
  have := or32_all ⟨c.toNat, c.toNat_lt⟩
  simpa using this
def thruP : ByteArray := ⟨#[116, 104, 114, 117]⟩
theorem thruAt_no {S : BS} {k : Nat} (h : ¬ [116, 104, 114, 117] <+: S.drop k) : thruAt S k = none := by
  unfold thruAt
  split
  · rename_i r hr
    exact absurd ⟨r, by rw [hr]; rfl⟩ h
  · rfl
theorem thruAt_end {S : BS} {k : Nat} (h : [116, 104, 114, 117] <+: S.drop k) (hr : S.drop (k + 4) = []) : thruAt S k = some (skipAt S (k + 4)) := by
  obtain ⟨r, hd⟩ := h
  have : S.drop (k + 4) = r := by rw [← List.drop_drop, ← hd]; rfl
  rw [this] at hr; subst hr
  unfold thruAt; rw [← hd]; rfl
theorem thruAt_more {S : BS} {k : Nat} {c : UInt8} {t : BS} (h : [116, 104, 114, 117] <+: S.drop k) (hr : S.drop (k + 4) = c :: t) : thruAt S k = if isD c || isL c then none else some (skipAt S (k + 4)) := by
  obtain ⟨r, hd⟩ := h
  have : S.drop (k + 4) = r := by rw [← List.drop_drop, ← hd]; rfl
  rw [this] at hr; subst hr
  unfold thruAt; rw [← hd]; rfl
theorem pre_at {s : ByteArray} {k : Nat} : preB (s.extract k s.size) thruP = true ↔ [116, 104, 114, 117] <+: s.data.toList.drop k := by
  rw [preB_iff, Lib.extract_to_end]; rfl
theorem rest_of (s : ByteArray) (k : Nat) : ((s.extract k s.size).extract thruP.size (s.extract k s.size).size).data.toList = s.data.toList.drop (k + 4) := by
  rw [Lib.extract_to_end, Lib.extract_to_end, List.drop_drop]; rfl

set_option maxHeartbeats 1000000 in
theorem thru_err (g : Nat) (s : ByteArray) (k : Nat) (e : Int) (w : World) (hr : Rd w g s k e) (hk : k ≤ s.size) (_hs : s.size ≤ 100000) (he : ¬ e = 0) :
    Calls Tryd.prog 71 #[.pointer (some ⟨g, 0, none⟩)] w fun r w' => r = .returned (.bool false) ∧ Rd w' g s k e ∧ w.grownBy w' (some g) := by
  obtain ⟨hc0, hc1, hc2⟩ := hr.cells
  have he' : (e != 0) = true := by simpa using he
  cases hp : preB (s.extract k s.size) thruP with
  | true =>
    go_enter Tryd.func71, Tryd.ntmps71
    go_wp2
    go_quiet ((go_at_call 78; exact Calls.quiet_of_same ((cutPrefix_yes _ thruP _ hp).mono (fun _ _ ⟨a, b⟩ => ⟨a, b.symm⟩))))
    go_wp2
    go_ret
    exact ⟨rfl, hr, only_drewN (World.grownBy.refl _ _) _⟩
  | false =>
    go_enter Tryd.func71, Tryd.ntmps71
    go_wp2
    go_quiet ((go_at_call 78; exact Calls.quiet_of_same ((cutPrefix_no _ thruP _ hp).mono (fun _ _ ⟨a, b⟩ => ⟨a, b.symm⟩))))
    go_wp2
    go_ret
    exact ⟨rfl, hr, only_drewN (World.grownBy.refl _ _) _⟩

theorem isEmpty_of_pos {R : ByteArray} (h : 0 < R.size) : R.toList.isEmpty = false := by
  rw [ByteArray.toList_eq, List.isEmpty_eq_false_iff]
  intro h0
  have h1 : R.data.toList.length = R.size := by simp
  rw [h0] at h1
  simp at h1
  omega
theorem data_of_zero {R : ByteArray} (h : ¬ 0 < R.size) : R.data.toList = [] := by
  apply List.eq_nil_of_length_eq_zero
  have : R.data.toList.length = R.size := by simp
  omega
theorem rest_of' (s : ByteArray) (k : Nat) : ((s.extract k s.size).extract thruP.size (s.size - k)).data.toList = s.data.toList.drop (k + 4) := by
  have := rest_of s k
  rwa [show (s.extract k s.size).size = s.size - k from by simp] at this
set_option maxHeartbeats 2000000 in
theorem thru_ok (g : Nat) (s : ByteArray) (k : Nat) (w : World) (hr : Rd w g s k 0) (hk : k ≤ s.size) (hs : s.size ≤ 100000) :
    Calls Tryd.prog 71 #[.pointer (some ⟨g, 0, none⟩)] w fun r w' => r = .returned (.bool (thruAt s.data.toList k).isSome) ∧ Rd w' g s ((thruAt s.data.toList k).getD k) 0 ∧ w.grownBy w' (some g) := by
  obtain ⟨hc0, hc1, hc2⟩ := hr.cells
  have hf1 := hr.frozen 1
  cases hp : preB (s.extract k s.size) thruP with
  | false =>
    have ht := Lib.hid (thruAt_no (S := s.data.toList) (k := k) (fun h => by rw [pre_at.2 h] at hp; cases hp))
    go_enter Tryd.func71, Tryd.ntmps71
    go_wp2
    go_quiet ((go_at_call 78; exact Calls.quiet_of_same ((cutPrefix_no _ thruP _ hp).mono (fun _ _ ⟨a, b⟩ => ⟨a, b.symm⟩))))
    go_wp2
    go_ret
    rw [ht.out]
    exact ⟨rfl, hr, only_drewN (World.grownBy.refl _ _) _⟩
  | true =>
    have hpre := Lib.hid (pre_at.1 hp)
    go_enter Tryd.func71, Tryd.ntmps71
    go_wp2
    go_quiet ((go_at_call 78; exact Calls.quiet_of_same ((cutPrefix_yes _ thruP _ hp).mono (fun _ _ ⟨a, b⟩ => ⟨a, b.symm⟩))))
    clear hp
    obtain ⟨R, hR⟩ : ∃ R, (s.extract k s.size).extract thruP.size (s.size - k) = R := ⟨_, rfl⟩
    have hRd : R.data.toList = s.data.toList.drop (k + 4) := by rw [← hR]; exact rest_of' s k
    have hRs : R.size + (k + 4) = s.size := by
      have h1 := congrArg List.length hRd
      obtain ⟨r, h2⟩ := hpre.out
      have h3 := congrArg List.length h2
      simp at h1 h3
      omega
    have HRd := Lib.hid hRd
    have HRs := Lib.hid hRs
    have hle : R.size + 4 ≤ s.size := by omega
    rw [hR]
    clear hR hRd hRs
    by_cases hz : 0 < R.size
    · have hd0 : s.data.toList.drop (k + 4) = R[0] :: (s.data.toList.drop (k + 4)).tail := by
        rw [← HRd.out]
        have : 0 < R.data.toList.length := by simpa using hz
        obtain ⟨c, t, hct⟩ := List.exists_cons_of_length_pos this
        have h0 : R[0] = R.data.toList[0] := rfl
        rw [h0]
        simp [hct]
      have hres := Lib.hid (thruAt_more hpre.out hd0)
      clear hd0
      have he1 : R.toList.isEmpty = false := isEmpty_of_pos hz
      cases hd : isD R[0] with
      | true =>
        have hbd : decide ((48 : Int) ≤ (R[0].toNat : Int) ∧ (R[0].toNat : Int) ≤ 57) = true := hd
        have Hbd := Lib.hid hbd
        rw [hd] at hres
        have hres' := Lib.hid (hres.out)
        clear hbd hd hres
        go_wp2_with (go_at_call 77; refine (within_any _ _ _ _).mono ?_; rw [Hbd.out]; rintro r w1 ⟨rfl, rfl⟩)
        go_ret
        rw [show thruAt s.data.toList k = none from hres'.out]
        exact ⟨rfl, hr, only_drewN (World.grownBy.refl _ _) _⟩
      | false =>
        have hbd : decide ((48 : Int) ≤ (R[0].toNat : Int) ∧ (R[0].toNat : Int) ≤ 57) = false := hd
        have Hbd := Lib.hid hbd
        rw [hd] at hres
        clear hbd hd
        cases hL : isL R[0] with
        | true =>
          have hbl : decide ((97 : Int) ≤ ((R[0] ||| 32).toNat : Int) ∧ ((R[0] ||| 32).toNat : Int) ≤ 122) = true := hL
          have Hbl := Lib.hid hbl
          rw [hL] at hres
          have hres' := Lib.hid (hres.out)
          clear hbl hL hres
          go_wp2_with fail
          refine (within_any _ _ _ _).mono ?_
          rw [Hbd.out]
          rintro r w1 ⟨rfl, rfl⟩
          go_wp2_with fail
          rw [or32]
          refine (within_any _ _ _ _).mono ?_
          rw [Hbl.out]
          rintro r w1 ⟨rfl, rfl⟩
          go_wp2_with fail
          go_ret
          rw [show thruAt s.data.toList k = none from hres'.out]
          exact ⟨rfl, hr, only_drewN (World.grownBy.refl _ _) _⟩
        | false =>
          have hbl : decide ((97 : Int) ≤ ((R[0] ||| 32).toNat : Int) ∧ ((R[0] ||| 32).toNat : Int) ≤ 122) = false := hL
          have Hbl := Lib.hid hbl
          rw [hL] at hres
          have hres' := Lib.hid (hres.out)
          have hrd' := Rd.at_ (w := w.drewN nq) hr (k + 4)
          clear hbl hL hres
          go_wp2_with fail
          refine (within_any _ _ _ _).mono ?_
          rw [Hbd.out]
          rintro r w1 ⟨rfl, rfl⟩
          go_wp2_with fail
          rw [or32]
          refine (within_any _ _ _ _).mono ?_
          rw [Hbl.out]
          rintro r w1 ⟨rfl, rfl⟩
          go_wp2_with fail
          rw [show ((s.size : Int) - (R.size : Int)) = ((k + 4 : Nat) : Int) from by have := HRs.out; omega]
          refine (blanks_any g s (k + 4) 0 _ hrd' (by have := HRs.out; omega) hs).mono ?_
          rintro r w3 ⟨rfl, hr3, hg3⟩
          go_wp2
          go_ret
          rw [show thruAt s.data.toList k = some (skipAt s.data.toList (k + 4)) from hres'.out]
          exact ⟨rfl, hr3, (only_set (only_drewN (World.grownBy.refl _ _) _) _ _).trans hg3⟩
    · have hR0 : R.data.toList = [] := data_of_zero hz
      have hres := Lib.hid (thruAt_end hpre.out (by rw [← HRd.out]; exact hR0))
      have he1 : R.toList = [] := by rw [ByteArray.toList_eq]; exact hR0
      have he2 : R.toList.isEmpty = true := by rw [he1]; rfl
      have hrd' := Rd.at_ (w := w.drewN nq) hr (k + 4)
      go_wp2_with fail
      rw [show ((s.size : Int) - (R.size : Int)) = ((k + 4 : Nat) : Int) from by have := HRs.out; omega]
      refine (blanks_any g s (k + 4) 0 _ hrd' (by have := HRs.out; omega) hs).mono ?_
      rintro r w3 ⟨rfl, hr3, hg3⟩
      go_wp2
      go_ret
      rw [hres.out]
      exact ⟨rfl, hr3, (only_set (only_drewN (World.grownBy.refl _ _) _) _ _).trans hg3⟩
end Go.Proofs.YteaofninjbhiaaaDoor
