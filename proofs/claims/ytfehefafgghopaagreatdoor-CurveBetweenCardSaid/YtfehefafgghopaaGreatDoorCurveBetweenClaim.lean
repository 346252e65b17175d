/- CurveBetween: for every input the law returns true, and its arguments read behind the call as they read before. The package variables that the row lists hold what the program's text lays. -/
import Derived.Test.YtfehefafgghopaaGreatDoorGWalkB
import Derived.Test.YtfehefafgghopaaGreatDoorGLaw
import Derived.Test.YtfehefafgghopaaGreatDoorFCurveBetween
import Derived.Test.YtfehefafgghopaaGreatDoorCards
import Derived.Test.YtfehefafgghopaaGreatDoorTie
import Derived.SevenTiedAt
import Derived.SizedLaws
namespace Go.Proofs.YtfehefafgghopaaGreatDoor
open Go.RowKit

theorem ord_ge9 {a b : Rat} (h : b ≤ a) : 0 ≤ ordR a b := Int.not_lt.1 fun h2 => Rat.not_lt.2 h (ordR_neg.1 h2)
theorem ord_le9 {a b : Rat} (h : a ≤ b) : ordR a b ≤ 0 := Int.not_lt.1 fun h2 => Rat.not_lt.2 h (ordR_pos.1 h2)
set_option maxRecDepth 100000 in
set_option maxHeartbeats 8000000 in
theorem cbetween_walk (w : World) (A : Option Addr) (n c : Nat) (l : List PT) (s : ByteArray) (hl : shP.In w A n l) (hs : s.size ≤ 9223372036854775807) (ht : Tab w) :
    Calls Tryz.prog 3 #[.slice A n c, .string s] w fun e w' => e = .returned (.bool true) ∧ Below w.heap.size w w' := by
  obtain ⟨rfl, _⟩ := id hl
  have HAw := Lib.hid (fun w ht => cawake_any w ht)
  have HR := Lib.hid (fun w hl => cright_any A l.length c l s w hl hs)
  have hB := Below.refl w.heap.size w
  have HT := Lib.hid ht
  by_cases hr : rightC l s = true
  · rw [hr] at HR
    obtain ⟨hn, hok, r, rfl, hz, hi⟩ := right_of hr
    have hv := hok.val_sz hz hi
    obtain ⟨b, o, rfl, hbl, hcell⟩ := pt_at hl (by have := hok.two; omega)
    have HCell := Lib.hid hcell
    have HL := Lib.hid hl
    have HA := Lib.hid (fun w hl ht => at_ok (some ⟨b, o, none⟩) c l hok hz (by decide) hi w hl ht)
    have HC1 := Lib.hid (fun w => check_ok hv (by decide) w)
    have HLev := Lib.hid (fun (k : Nat) (hk : k < l.length) => up_lev hk hok.up)
    have HXs := Lib.hid (fun (k : Nat) (hk : k < l.length) => show ∀ w, shP.In w (some ⟨b, o, none⟩) l.length l → Tab w → Calls Tryz.prog 12 #[.slice (some ⟨b, o, none⟩) l.length c, .string (sR ((l[k].1 : Int) : Rat))] w fun e w' => e = .returned (.tuple #[.string (sR ((l[k].2 : Int) : Rat)), .int .i64 0]) ∧ Below w.heap.size w w' from fun w hl ht => by
      obtain ⟨⟨x0, x1⟩, _⟩ := HLev.out k hk
      have := at_ok (some ⟨b, o, none⟩) c l hok (SzR.int (k := 5) (z := l[k].1) (by omega) (by decide)) (by decide) ⟨cast_le.2 x0, cast_le.2 x1⟩ w hl ht
      rw [hok.at hk] at this
      exact this)
    have HSeg := Lib.hid (fun (j : Nat) (hj : j + 1 < l.length) => show (((l[j]'(by omega)).1 : Int) : Rat) ≤ r → r ≤ ((l[j + 1].1 : Int) : Rat) → ((min (l[j]'(by omega)).2 l[j + 1].2 : Int) : Rat) ≤ valC l r ∧ valC l r ≤ ((max (l[j]'(by omega)).2 l[j + 1].2 : Int) : Rat) from fun h1 h2 => by
      rw [valC_seg hok.up hj h1 h2]
      exact seg_between (up_step hj hok.up) h1 h2)
    have HZ := Lib.hid hz
    have HV := Lib.hid hv
    generalize valC l r = y at *
    clear hok hr hz hi hl hcell hv
    go_enter Tryz.func3, Tryz.ntmps3
    go_wp2_with fail
    refine (HR.out _ (HL.out.below hB)).mono ?_
    rintro e wk ⟨rfl, hb⟩
    replace hB := hB.trans (hb.mono hB.size)
    clear hb
    go_wp2_with fail
    refine (HA.out _ (HL.out.below hB) (HT.out.below hB)).mono ?_
    rintro e wk ⟨rfl, hb⟩
    replace hB := hB.trans (hb.mono hB.size)
    clear hb
    go_wp2_with fail
    refine (HC1.out _).mono ?_
    rintro e wk ⟨rfl, hb⟩
    replace hB := hB.trans (hb.mono hB.size)
    clear hb
    have HB0 := Lib.hid hB
    clear hB
    go_wp2_with fail
    go_loopw [33] (fun iv wr => ∃ k : Nat, k ≤ l.length ∧ iv = .int .i64 k ∧ Below w.heap.size w wr) (fun iv _ => l.length - (intOf iv).toNat)
    case atStart => exact ⟨0, Nat.zero_le _, rfl, HB0.out⟩
    case round =>
      obtain ⟨k, hk, rfl, hBr⟩ := hrel
      by_cases hlt : k < l.length
      · have hp := pt_keep hbl (HCell.out k hlt) hBr
        have HBr := Lib.hid hBr
        obtain ⟨lx, ly⟩ := HLev.out k hlt
        unfold isLev at lx ly
        have HWx := Lib.hid (fun w => swhole_fit (x := l[k].1) (by omega) (by omega) w)
        have HWy := Lib.hid (fun w => swhole_fit (x := l[k].2) (by omega) (by omega) w)
        have HAk := Lib.hid (HXs.out k hlt)
        have hbw : b < wr.heap.size := Nat.lt_of_lt_of_le hbl hBr.size
        have HPrev := Lib.hid (fun (j : Nat) (h : k = j + 1) => pt_keep hbl (HCell.out j (by omega)) hBr)
        have HS2 := Lib.hid (fun (j : Nat) (h : k = j + 1) => show (((l[j]'(by omega)).1 : Int) : Rat) ≤ r → r ≤ ((l[k].1 : Int) : Rat) → ((min (l[j]'(by omega)).2 l[k].2 : Int) : Rat) ≤ y ∧ y ≤ ((max (l[j]'(by omega)).2 l[k].2 : Int) : Rat) by subst h; exact HSeg.out j hlt)
        generalize l[k].1 = X at *
        generalize l[k].2 = Y at *
        obtain ⟨W, hW⟩ : ∃ W, W = wr.alloc (.cells #[.int .i64 X, .int .i64 Y] 31) := ⟨_, rfl⟩
        have hG := pt_fresh wr X Y 31
        have hB0 : Below wr.heap.size wr W := by rw [hW]; exact (Below.refl _ wr).alloc (Nat.le_refl _) _
        have hlW : wr.heap.size < W.heap.size := by rw [hW]; simp
        rw [← hW] at hG
        have HB0 := Lib.hid hB0
        have hB := Below.refl W.heap.size W
        have HK := Lib.hid (fun w' (h : Below W.heap.size W w') => pt_keep0 hlW hG h)
        have HW := Lib.hid hW
        have hbW : b < W.heap.size := Nat.lt_of_lt_of_le hbw hB0.size
        obtain ⟨c0, c1⟩ := hG
        obtain ⟨p0, p1⟩ := hp
        have HFin := Lib.hid (show ∀ w', Below W.heap.size W w' → Below w.heap.size w w' from fun w' h => HBr.out.trans ((HB0.out.trans (h.mono HB0.out.size)).mono HBr.out.size))
        clear hBr hW hB0
        rcases k with _ | j
        · simp only [Nat.zero_mul, Nat.add_zero] at p0 p1
          clear HPrev HS2
          go_wp2_with fail
          rw [← HW.out]
          refine (HWx.out _).mono ?_
          rintro e wk ⟨rfl, hb⟩
          replace hB := hB.trans (hb.mono hB.size)
          clear hb
          obtain ⟨c0, c1⟩ := HK.out _ hB
          go_wp2_with fail
          refine (HAk.out _ (HL.out.below (HFin.out _ hB)) (HT.out.below (HFin.out _ hB))).mono ?_
          rintro e wk ⟨rfl, hb⟩
          replace hB := hB.trans (hb.mono hB.size)
          clear hb
          obtain ⟨c0, c1⟩ := HK.out _ hB
          go_wp2_with fail
          refine (HWy.out _).mono ?_
          rintro e wk ⟨rfl, hb⟩
          replace hB := hB.trans (hb.mono hB.size)
          clear hb
          obtain ⟨c0, c1⟩ := HK.out _ hB
          go_wp2_with fail
          go_roundw
          case rel => exact ⟨0 + 1, by omega, by go_num, HFin.out _ hB⟩
          case measure => simp [intOf]; omega
        · obtain ⟨q0, q1⟩ := HPrev.out j rfl
          have hS2 := HS2.out j rfl
          obtain ⟨mx, my⟩ := HLev.out j (by omega)
          unfold isLev at mx my
          have HWp := Lib.hid (fun w => swhole_fit (x := (l[j]'(by omega)).1) (by omega) (by omega) w)
          have HOv := Lib.hid (fun w => sorder_fit HZ.out (SzR.int (k := 5) (z := (l[j]'(by omega)).1) (by omega) (by decide)) w (by decide) (by decide))
          have HOx := Lib.hid (fun w => sorder_fit HZ.out (SzR.int (k := 5) (z := X) (by omega) (by decide)) w (by decide) (by decide))
          generalize (l[j]'(by omega)).1 = PX at *
          generalize (l[j]'(by omega)).2 = PY at *
          have q0 := (HB0.out.cell (p := ⟨b, o + j * 2, none⟩) hbw).trans q0
          have q1 := (HB0.out.cell (p := ⟨b, o + j * 2 + 1, none⟩) hbw).trans q1
          have HK2 := Lib.hid (fun w' (h : Below W.heap.size W w') => And.intro (HK.out w' h) (And.intro ((bcell h).1 b (o + j * 2) hbW |>.trans q0) ((bcell h).1 b (o + j * 2 + 1) hbW |>.trans q1)))
          have HK := HK2
          clear HK2
          have w1 : IntKind.i64.wrap ((j : Int) + 1 - 1) = (j : Int) := by rw [Int.add_sub_cancel]; exact IntWalk.i64_in _ (by omega)
          have w2 : IntKind.i64.wrap (j : Int) = (j : Int) := IntWalk.i64_in _ (by omega)
          have i0 : (0 : Int) ≤ (j : Int) := by omega
          have i1 : (j : Int) < (l.length : Int) := by omega
          have i2 : (j : Int) + 1 < (l.length : Int) := by omega
          have i3 : (0 : Int) ≤ (j : Int) + 1 := by omega
          have g0 : ((j : Int) + 1 == 0) = false := by rw [beq_eq_false_iff_ne]; omega
          have hO1 : ¬ ordR r ((PX : Int) : Rat) < 0 → ((PX : Int) : Rat) ≤ r := fun h => Rat.not_lt.1 (fun h2 => h (ordR_neg.2 h2))
          have hO2 : ¬ 0 < ordR r ((X : Int) : Rat) → r ≤ ((X : Int) : Rat) := fun h => Rat.not_lt.1 (fun h2 => h (ordR_pos.2 h2))
          generalize ordR r ((PX : Int) : Rat) = ov at *
          generalize ordR r ((X : Int) : Rat) = ox at *
          clear HPrev HS2 HCell HSeg HXs
          by_cases hv1 : ov < 0
          · have g1 : decide (ov < 0) = true := decide_eq_true hv1
            clear hO1 hO2 hS2 hv1
            go_wp2_with fail
            rw [← HW.out]
            refine (HWx.out _).mono ?_
            rintro e wk ⟨rfl, hb⟩
            replace hB := hB.trans (hb.mono hB.size)
            clear hb
            obtain ⟨⟨c0, c1⟩, q0, q1⟩ := HK.out _ hB
            go_wp2_with fail
            refine (HAk.out _ (HL.out.below (HFin.out _ hB)) (HT.out.below (HFin.out _ hB))).mono ?_
            rintro e wk ⟨rfl, hb⟩
            replace hB := hB.trans (hb.mono hB.size)
            clear hb
            obtain ⟨⟨c0, c1⟩, q0, q1⟩ := HK.out _ hB
            go_wp2_with fail
            refine (HWy.out _).mono ?_
            rintro e wk ⟨rfl, hb⟩
            replace hB := hB.trans (hb.mono hB.size)
            clear hb
            obtain ⟨⟨c0, c1⟩, q0, q1⟩ := HK.out _ hB
            go_wp2_with fail
            refine (HWp.out _).mono ?_
            rintro e wk ⟨rfl, hb⟩
            replace hB := hB.trans (hb.mono hB.size)
            clear hb
            obtain ⟨⟨c0, c1⟩, q0, q1⟩ := HK.out _ hB
            go_wp2_with fail
            refine (HOv.out _).mono ?_
            rintro e wk ⟨rfl, hb⟩
            replace hB := hB.trans (hb.mono hB.size)
            clear hb
            obtain ⟨⟨c0, c1⟩, q0, q1⟩ := HK.out _ hB
            go_wp2_with fail
            go_roundw
            case rel => exact ⟨j + 1 + 1, by omega, by go_num, HFin.out _ hB⟩
            case measure => simp [intOf]; omega
          · have g1 : decide (ov < 0) = false := decide_eq_false hv1
            have hO1 := hO1 hv1
            clear hv1
            by_cases hx1 : 0 < ox
            · have g2 : decide (0 < ox) = true := decide_eq_true hx1
              clear hO1 hO2 hS2 hx1
              go_wp2_with fail
              rw [← HW.out]
              refine (HWx.out _).mono ?_
              rintro e wk ⟨rfl, hb⟩
              replace hB := hB.trans (hb.mono hB.size)
              clear hb
              obtain ⟨⟨c0, c1⟩, q0, q1⟩ := HK.out _ hB
              go_wp2_with fail
              refine (HAk.out _ (HL.out.below (HFin.out _ hB)) (HT.out.below (HFin.out _ hB))).mono ?_
              rintro e wk ⟨rfl, hb⟩
              replace hB := hB.trans (hb.mono hB.size)
              clear hb
              obtain ⟨⟨c0, c1⟩, q0, q1⟩ := HK.out _ hB
              go_wp2_with fail
              refine (HWy.out _).mono ?_
              rintro e wk ⟨rfl, hb⟩
              replace hB := hB.trans (hb.mono hB.size)
              clear hb
              obtain ⟨⟨c0, c1⟩, q0, q1⟩ := HK.out _ hB
              go_wp2_with fail
              refine (HWp.out _).mono ?_
              rintro e wk ⟨rfl, hb⟩
              replace hB := hB.trans (hb.mono hB.size)
              clear hb
              obtain ⟨⟨c0, c1⟩, q0, q1⟩ := HK.out _ hB
              go_wp2_with fail
              refine (HOv.out _).mono ?_
              rintro e wk ⟨rfl, hb⟩
              replace hB := hB.trans (hb.mono hB.size)
              clear hb
              obtain ⟨⟨c0, c1⟩, q0, q1⟩ := HK.out _ hB
              go_wp2_with fail
              refine (HWx.out _).mono ?_
              rintro e wk ⟨rfl, hb⟩
              replace hB := hB.trans (hb.mono hB.size)
              clear hb
              obtain ⟨⟨c0, c1⟩, q0, q1⟩ := HK.out _ hB
              go_wp2_with fail
              refine (HOx.out _).mono ?_
              rintro e wk ⟨rfl, hb⟩
              replace hB := hB.trans (hb.mono hB.size)
              clear hb
              obtain ⟨⟨c0, c1⟩, q0, q1⟩ := HK.out _ hB
              go_wp2_with fail
              go_roundw
              case rel => exact ⟨j + 1 + 1, by omega, by go_num, HFin.out _ hB⟩
              case measure => simp [intOf]; omega
            · have g2 : decide (0 < ox) = false := decide_eq_false hx1
              have hO2 := hO2 hx1
              obtain ⟨hlo, hhi⟩ := hS2 hO1 hO2
              clear hS2 hO1 hO2 hx1
              have HVz := HV
              by_cases hm : PY ≤ Y
              · rw [Int.min_eq_left hm] at hlo
                rw [Int.max_eq_right hm] at hhi
                have hl0 := ord_ge9 hlo
                have hh0 := ord_le9 hhi
                have HWl := Lib.hid (fun w => swhole_fit (x := PY) (by omega) (by omega) w)
                have HWh := Lib.hid (fun w => swhole_fit (x := Y) (by omega) (by omega) w)
                have HOl := Lib.hid (fun w => sorder_fit HV.out (SzR.int (k := 5) (z := PY) (by omega) (by decide)) w (by decide) (by decide))
                have HOh := Lib.hid (fun w => sorder_fit HV.out (SzR.int (k := 5) (z := Y) (by omega) (by decide)) w (by decide) (by decide))
                generalize ordR y ((PY : Int) : Rat) = ol at *
                generalize ordR y ((Y : Int) : Rat) = oh at *
                have g3 : decide (ol < 0) = false := decide_eq_false (by omega)
                have g4 : decide (0 < oh) = false := decide_eq_false (by omega)
                clear hlo hhi hl0 hh0
                go_wp2_with fail
                rw [← HW.out]
                refine (HWx.out _).mono ?_
                rintro e wk ⟨rfl, hb⟩
                replace hB := hB.trans (hb.mono hB.size)
                clear hb
                obtain ⟨⟨c0, c1⟩, q0, q1⟩ := HK.out _ hB
                go_wp2_with fail
                refine (HAk.out _ (HL.out.below (HFin.out _ hB)) (HT.out.below (HFin.out _ hB))).mono ?_
                rintro e wk ⟨rfl, hb⟩
                replace hB := hB.trans (hb.mono hB.size)
                clear hb
                obtain ⟨⟨c0, c1⟩, q0, q1⟩ := HK.out _ hB
                go_wp2_with fail
                refine (HWy.out _).mono ?_
                rintro e wk ⟨rfl, hb⟩
                replace hB := hB.trans (hb.mono hB.size)
                clear hb
                obtain ⟨⟨c0, c1⟩, q0, q1⟩ := HK.out _ hB
                go_wp2_with fail
                refine (HWp.out _).mono ?_
                rintro e wk ⟨rfl, hb⟩
                replace hB := hB.trans (hb.mono hB.size)
                clear hb
                obtain ⟨⟨c0, c1⟩, q0, q1⟩ := HK.out _ hB
                go_wp2_with fail
                refine (HOv.out _).mono ?_
                rintro e wk ⟨rfl, hb⟩
                replace hB := hB.trans (hb.mono hB.size)
                clear hb
                obtain ⟨⟨c0, c1⟩, q0, q1⟩ := HK.out _ hB
                go_wp2_with fail
                refine (HWx.out _).mono ?_
                rintro e wk ⟨rfl, hb⟩
                replace hB := hB.trans (hb.mono hB.size)
                clear hb
                obtain ⟨⟨c0, c1⟩, q0, q1⟩ := HK.out _ hB
                go_wp2_with fail
                refine (HOx.out _).mono ?_
                rintro e wk ⟨rfl, hb⟩
                replace hB := hB.trans (hb.mono hB.size)
                clear hb
                obtain ⟨⟨c0, c1⟩, q0, q1⟩ := HK.out _ hB
                go_wp2_with fail
                have hmn : min PY Y = PY := Int.min_eq_left hm
                have hmx : max PY Y = Y := Int.max_eq_right hm
                go_region
                replace hB := hB.drew
                obtain ⟨⟨c0, c1⟩, q0, q1⟩ := HK.out _ hB
                go_wp2_with fail
                refine (HWl.out _).mono ?_
                rintro e wk ⟨rfl, hb⟩
                replace hB := hB.trans (hb.mono hB.size)
                clear hb
                obtain ⟨⟨c0, c1⟩, q0, q1⟩ := HK.out _ hB
                go_wp2_with fail
                refine (HOl.out _).mono ?_
                rintro e wk ⟨rfl, hb⟩
                replace hB := hB.trans (hb.mono hB.size)
                clear hb
                obtain ⟨⟨c0, c1⟩, q0, q1⟩ := HK.out _ hB
                go_wp2_with fail
                refine (HWh.out _).mono ?_
                rintro e wk ⟨rfl, hb⟩
                replace hB := hB.trans (hb.mono hB.size)
                clear hb
                obtain ⟨⟨c0, c1⟩, q0, q1⟩ := HK.out _ hB
                go_wp2_with fail
                refine (HOh.out _).mono ?_
                rintro e wk ⟨rfl, hb⟩
                replace hB := hB.trans (hb.mono hB.size)
                clear hb
                obtain ⟨⟨c0, c1⟩, q0, q1⟩ := HK.out _ hB
                go_wp2_with fail
                go_roundw
                case rel => exact ⟨j + 1 + 1, by omega, by go_num, HFin.out _ hB⟩
                case measure => simp [intOf]; omega
              · rw [Int.min_eq_right (by omega)] at hlo
                rw [Int.max_eq_left (by omega)] at hhi
                have hl0 := ord_ge9 hlo
                have hh0 := ord_le9 hhi
                have HWl := Lib.hid (fun w => swhole_fit (x := Y) (by omega) (by omega) w)
                have HWh := Lib.hid (fun w => swhole_fit (x := PY) (by omega) (by omega) w)
                have HOl := Lib.hid (fun w => sorder_fit HV.out (SzR.int (k := 5) (z := Y) (by omega) (by decide)) w (by decide) (by decide))
                have HOh := Lib.hid (fun w => sorder_fit HV.out (SzR.int (k := 5) (z := PY) (by omega) (by decide)) w (by decide) (by decide))
                generalize ordR y ((Y : Int) : Rat) = ol at *
                generalize ordR y ((PY : Int) : Rat) = oh at *
                have g3 : decide (ol < 0) = false := decide_eq_false (by omega)
                have g4 : decide (0 < oh) = false := decide_eq_false (by omega)
                clear hlo hhi hl0 hh0
                go_wp2_with fail
                rw [← HW.out]
                refine (HWx.out _).mono ?_
                rintro e wk ⟨rfl, hb⟩
                replace hB := hB.trans (hb.mono hB.size)
                clear hb
                obtain ⟨⟨c0, c1⟩, q0, q1⟩ := HK.out _ hB
                go_wp2_with fail
                refine (HAk.out _ (HL.out.below (HFin.out _ hB)) (HT.out.below (HFin.out _ hB))).mono ?_
                rintro e wk ⟨rfl, hb⟩
                replace hB := hB.trans (hb.mono hB.size)
                clear hb
                obtain ⟨⟨c0, c1⟩, q0, q1⟩ := HK.out _ hB
                go_wp2_with fail
                refine (HWy.out _).mono ?_
                rintro e wk ⟨rfl, hb⟩
                replace hB := hB.trans (hb.mono hB.size)
                clear hb
                obtain ⟨⟨c0, c1⟩, q0, q1⟩ := HK.out _ hB
                go_wp2_with fail
                refine (HWp.out _).mono ?_
                rintro e wk ⟨rfl, hb⟩
                replace hB := hB.trans (hb.mono hB.size)
                clear hb
                obtain ⟨⟨c0, c1⟩, q0, q1⟩ := HK.out _ hB
                go_wp2_with fail
                refine (HOv.out _).mono ?_
                rintro e wk ⟨rfl, hb⟩
                replace hB := hB.trans (hb.mono hB.size)
                clear hb
                obtain ⟨⟨c0, c1⟩, q0, q1⟩ := HK.out _ hB
                go_wp2_with fail
                refine (HWx.out _).mono ?_
                rintro e wk ⟨rfl, hb⟩
                replace hB := hB.trans (hb.mono hB.size)
                clear hb
                obtain ⟨⟨c0, c1⟩, q0, q1⟩ := HK.out _ hB
                go_wp2_with fail
                refine (HOx.out _).mono ?_
                rintro e wk ⟨rfl, hb⟩
                replace hB := hB.trans (hb.mono hB.size)
                clear hb
                obtain ⟨⟨c0, c1⟩, q0, q1⟩ := HK.out _ hB
                go_wp2_with fail
                have hmn : min PY Y = Y := Int.min_eq_right (by omega)
                have hmx : max PY Y = PY := Int.max_eq_left (by omega)
                go_region
                replace hB := hB.drew
                obtain ⟨⟨c0, c1⟩, q0, q1⟩ := HK.out _ hB
                go_wp2_with fail
                refine (HWl.out _).mono ?_
                rintro e wk ⟨rfl, hb⟩
                replace hB := hB.trans (hb.mono hB.size)
                clear hb
                obtain ⟨⟨c0, c1⟩, q0, q1⟩ := HK.out _ hB
                go_wp2_with fail
                refine (HOl.out _).mono ?_
                rintro e wk ⟨rfl, hb⟩
                replace hB := hB.trans (hb.mono hB.size)
                clear hb
                obtain ⟨⟨c0, c1⟩, q0, q1⟩ := HK.out _ hB
                go_wp2_with fail
                refine (HWh.out _).mono ?_
                rintro e wk ⟨rfl, hb⟩
                replace hB := hB.trans (hb.mono hB.size)
                clear hb
                obtain ⟨⟨c0, c1⟩, q0, q1⟩ := HK.out _ hB
                go_wp2_with fail
                refine (HOh.out _).mono ?_
                rintro e wk ⟨rfl, hb⟩
                replace hB := hB.trans (hb.mono hB.size)
                clear hb
                obtain ⟨⟨c0, c1⟩, q0, q1⟩ := HK.out _ hB
                go_wp2_with fail
                go_roundw
                case rel => exact ⟨j + 1 + 1, by omega, by go_num, HFin.out _ hB⟩
                case measure => simp [intOf]; omega
      · obtain rfl : k = l.length := by omega
        have hB := hBr
        go_wp2_with fail
        refine (HAw.out _ (HT.out.below hB)).mono ?_
        rintro e wk ⟨rfl, hb⟩
        replace hB := hB.trans (hb.mono hB.size)
        clear hb
        go_wp2_with fail
        go_ret
        exact ⟨rfl, hB⟩
  · rw [Bool.not_eq_true] at hr
    rw [hr] at HR
    have HL := Lib.hid hl
    clear hl
    go_enter Tryz.func3, Tryz.ntmps3
    go_wp2_with fail
    refine (HR.out _ (HL.out.below hB)).mono ?_
    rintro e wk ⟨rfl, hb⟩
    replace hB := hB.trans (hb.mono hB.size)
    clear hb
    go_wp2_with fail
    refine (HAw.out _ (HT.out.below hB)).mono ?_
    rintro e wk ⟨rfl, hb⟩
    replace hB := hB.trans (hb.mono hB.size)
    clear hb
    go_wp2_with fail
    go_ret
    exact ⟨rfl, hB⟩
theorem curve_between (w : World) (A : Option Addr) (n c : Nat) (l : List PT) (hl : shP.In w A n l) (_ : ∀ g ∈ l, goodP g) (_ : n ≤ maxLen) (s : ByteArray) (hs : s.size ≤ maxLen) (hL : Laid w) :
    Calls Tryz.prog 3 #[.slice A n c, .string s] w fun e w' => e = .returned (.bool true) ∧ Below w.heap.size w w' :=
  cbetween_walk w A n c l s hl (by unfold maxLen at hs; omega) hL.1
end Go.Proofs.YtfehefafgghopaaGreatDoor

namespace Go.Proofs.YtfehefafgghopaaGreatDoor.curveBetweenP
open Go.ChangeShapes Go.ChangeMaps Go.WideShapes Go.ChangeAt Go.RowKit

set_option maxRecDepth 100000 in
theorem lifted (os : Os) (started : os.Started) (H : Type) (enc : TypeId × Value → H) :
    ReturnsInHanded {} Tryz.checked os 3 .any (fun w args => (Rows.curveBetweenSpec.pre enc Tryz.prog Tryz.f3 [] false w args ∧ laidMetH Tryz.prog Rows.curveBetweenRow.laid w) ∧ sizedMet enc Tryz.prog Tryz.f3 (OpenSpec.ofChange Rows.curveBetweenSpec) false w args)
      (Rows.curveBetweenSpec.post enc Tryz.prog Tryz.f3 false true false false) := by
  refine returnsInHanded_of_change_and (C := Tryz.checked) (X := fun w _ => laidMetH Tryz.prog Rows.curveBetweenRow.laid w) (fun _ _ _ hh h => h.of_heap hh) own_ started (by kernel_rfl) Tryz.func3
    (ChangeSpec.witness_at (enc := enc) (C := Tryz.checked) (os := os) (X := fun w _ => laidMetH Tryz.prog Rows.curveBetweenRow.laid w) false (laidWorld os) #[.slice none 0 0, .string ⟨#[]⟩] 8 rfl (by kernel_rfl) (by kernel_rfl) (by kernel_rfl) (by kernel_rfl) (by kernel_rfl) (laid_met os _)) ?_
  intro W base args ds gs before hval0 hW _ hWt hL _
  have hval : ∀ (j : Nat) t v, Tryz.f3.params[j]? = some t → args[j]? = some v → Value.okWide Tryz.prog W .any base t v := hval0
  have hW' := hW
  obtain ⟨p, q, hA0, hV, rfl, hfz, hnd⟩ := hW
  have hA : DataW.TrodAll enc Tryz.prog W 0 (fun _ => true) true Tryz.f3.params.toList args.toList ds p := hA0
  rw [Tryz.params3] at hA hval hWt
  obtain ⟨v0, vs0, d0, ds0, p0, q0, hargs, rfl, rfl, h0, r0⟩ := trodAll_cons hA
  obtain ⟨v1, vs1, d1, ds1, p1, q1, rfl, rfl, rfl, h1, r1⟩ := trodAll_cons r0
  obtain ⟨rfl, rfl, rfl⟩ := trodAll_nil r1
  obtain rfl : args = #[v0, v1] := by cases args; simp_all
  obtain ⟨rfl, rfl⟩ := trodVars_none hV
  have lt0 : ∀ x ∈ p0, x.block < W.heap.size := by obtain ⟨m, hm⟩ := h0; exact DataW.trod_lt m _ _ _ hm
  obtain ⟨A0, n0, c0, rfl⟩ := okWide_slice Tryz.underlying22 (hval 0 22 v0 rfl rfl)
  have k0 := h0
  obtain ⟨fuel0, hf0⟩ := k0
  obtain ⟨l0, hl0, hg0, hn0, hx0⟩ := open_rows shP Tryz.underlying22 (by kernel_rfl : Tryz.prog.cellsOf 31 = shP.z) (by decide) (0, 0) _ (fun _ _ _ h => point_cells h) hf0
  obtain ⟨x1, rfl, rfl, rfl, w1⟩ := open_string Tryz.underlying23 (hval 1 23 v1 rfl rfl) h1
  clear hA0 hval0 hWt
  simp only [List.append_nil] at hW'
  refine (curve_between W A0 n0 c0 l0 hl0 hg0 hn0 x1 w1 (laid_of hL)).mono fun e W' ⟨he, bel⟩ => ?_
  subst he
  exact ⟨_, rfl, _, _, _, [], _, [], hW', trodAll_mk1 (shut_bool Tryz.underlying4 _), (trodAll_cons_mk (Below.trod laidOut (by kernel_rfl) (of_decide_eq_true (by kernel_rfl)) h0 bel lt0) (trodAll_cons_mk (shut_string Tryz.underlying23 w1) trodAll_mk0)), rfl, bel.frame _, fun h => by cases h⟩

theorem over : Rows.curveBetweenRow.holds Tryz.pinned (OpenSpec.ofChange Rows.curveBetweenSpec) :=
  OpenClaim.holds_of_wide 3 Tryz.f3 rfl rfl rfl rfl rfl rfl rfl ⟨rfl, rfl, rfl, rfl, rfl⟩ rfl rfl rfl rfl rfl (by kernel_rfl) Tryz.func3 curveBetween_facts
    (of_decide_eq_true (by kernel_rfl)) (by unfold Func.isWrapper; rw [if_neg (of_decide_eq_false (by kernel_rfl))]; exact ⟨rfl, rfl⟩)
    (fun os started H enc _ => lifted os started H enc)

theorem noStandIn : ∀ t ∈ Tryz.f3.params.toList, Tryz.prog.wantsStandIn t = false := by
  rw [Tryz.params3]
  intro t ht
  simp only [List.mem_cons, List.not_mem_nil, or_false] at ht
  rcases ht with rfl | rfl <;> kernel_rfl

theorem proved : Rows.CurveBetweenCardSaid :=
  Claim7.holds_tied_plain_at .later [] [.data, .data, .data, .data, .sentinel, .sentinel, .pinned] true (true, "7e007695281886813cdef532baba37053e1c23961511217fdbbfe3c0579aab35") true
    over (fun _ h => by cases h) (by kernel_rfl) (fun _ h => by cases h) curveBetween_row_tie rfl ⟨rfl, rfl⟩ (by kernel_rfl) rfl
    (fun f fn hf hfn => by
      obtain rfl : f = 3 := Option.some.inj ((show Tryz.prog.funcNamed "luminaire/luminairelaw09.CurveBetween" = some 3 by kernel_rfl).symm.trans hf) |>.symm
      obtain rfl : fn = Tryz.f3 := (Option.some.inj (Tryz.func3.symm.trans hfn)).symm
      exact ⟨by kernel_rfl, fun j t ht => noStandIn t (Array.mem_toList_iff.2 (Array.mem_of_getElem? ht))⟩)
    (by kernel_rfl)
#print axioms proved
end Go.Proofs.YtfehefafgghopaaGreatDoor.curveBetweenP
