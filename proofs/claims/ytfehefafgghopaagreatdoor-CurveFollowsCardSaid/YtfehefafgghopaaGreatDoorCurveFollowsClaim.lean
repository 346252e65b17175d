/- CurveFollows: for every input the law returns true, and its arguments read behind the call as they read before. The package variables that the row lists hold what the program's text lays. -/
import Derived.Test.YtfehefafgghopaaGreatDoorGNest
import Derived.Test.YtfehefafgghopaaGreatDoorGWalkB
import Derived.Test.YtfehefafgghopaaGreatDoorGOpen
import Derived.Test.YtfehefafgghopaaGreatDoorGLaw
import Derived.Test.YtfehefafgghopaaGreatDoorFCurveFollows
import Derived.Test.YtfehefafgghopaaGreatDoorCards
import Derived.Test.YtfehefafgghopaaGreatDoorTie
import Derived.SevenTiedAt
import Derived.SizedLaws
namespace Go.Proofs.YtfehefafgghopaaGreatDoor
open Go.RowKit

theorem val_straight {r : Rat} (h : InL r) : valC straightC r = r := by
  show valC [(0, 0), (65535, 65535)] r = r
  rw [valC_two, if_pos (show r ≤ ((65535 : Int) : Rat) from h.2)]
  refine seg_unique (by decide) ?_
  show (r - ((0 : Int) : Rat)) * (((65535 : Int) : Rat) - ((0 : Int) : Rat)) = (((65535 : Int) : Rat) - ((0 : Int) : Rat)) * (r - ((0 : Int) : Rat))
  grind
theorem allE_of {L : List (List PT)} (h : ∀ c ∈ L, OkC c) : allE L = 0 := by
  induction L with
  | nil => rfl
  | cons c L ih => rw [allE, if_neg (fun hn => hn (chkC_ok.2 (h c (by simp)))), ih (fun d hd => h d (by simp [hd]))]
theorem errA_of {L : List (List PT)} (h : ∀ c ∈ L, OkC c) (hn : L.length ≤ 16) : errA L = 0 := by unfold errA; rw [if_neg (by omega), allE_of h]
theorem lev_of {k : Nat} {r : Rat} (hz : SzR k r) (hk : k ≤ 400) (hi : InL r) : errLv (sR r).data.toList = 0 := by
  unfold errLv
  rw [sR_list, chkR_fit (hz.fit (by omega)), if_neg (by decide), valR_rT, if_pos hi]
theorem thruT_of {L : List (List PT)} {k : Nat} {r : Rat} (h : ∀ c ∈ L, OkC c) (hn : L.length ≤ 16) (hz : SzR k r) (hk : k ≤ 400) (hi : InL r) : errT L (sR r) = 0 ∧ thruT L (sR r) = sR (thruC L r) := by
  have e : errT L (sR r) = 0 := by unfold errT; rw [errA_of h hn, if_neg (by decide), lev_of hz hk hi]
  refine ⟨e, ?_⟩
  unfold thruT
  rw [e, if_neg (by decide), sR_list, valR_rT]
theorem thru_wrap {L : List (List PT)} (h : ∀ c ∈ L, OkC c) {r : Rat} (hr : InL r) : thruC (straightC :: (L ++ [straightC])) r = thruC L r := by
  show thruC (L ++ [straightC]) (valC straightC r) = _
  rw [val_straight hr]
  unfold thruC
  rw [List.foldl_append]
  exact val_straight (thru_in h hr)
theorem Sh.In.take {α : Type} {S : Sh α} {w : World} {A : Option Addr} {n : Nat} {l : List α} (h : S.In w A n l) (k : Nat) (hk : k ≤ n) : S.In w A k (l.take k) := by
  obtain ⟨e, hl, hc⟩ := h
  have hlen : (l.take k).length = k := by rw [List.length_take]; omega
  refine ⟨hlen.symm, by rw [S.vs_length, hlen], fun h0 => ?_⟩
  obtain ⟨b, o, e1, hb, hat⟩ := hc (by omega)
  refine ⟨b, o, e1, hb, fun j u hu => hat j u ?_⟩
  have hj : j < (S.vs (l.take k)).length := (List.getElem?_eq_some_iff.1 hu).1
  conv => lhs; rw [← List.take_append_drop k l, S.vs_append]
  rw [List.getElem?_append_left hj]; exact hu
theorem InN.take {w : World} {A : Option Addr} {n : Nat} {H : List Hd} {L : List (List PT)} (h : InN w A n H L) (k : Nat) (hk : k ≤ n) : InN w A k (H.take k) (L.take k) := by
  refine ⟨h.1.take k hk, by rw [List.length_take, List.length_take, h.2.1], fun i h1 h2 => ?_⟩
  rw [List.getElem_take, List.getElem_take]
  exact h.2.2 i (by rw [List.length_take] at h1; omega) (by rw [List.length_take] at h2; omega)
theorem InN.wrap {w : World} {A : Option Addr} {n : Nat} {H : List Hd} {L : List (List PT)} {a b : Hd} {x y : List PT} (h : shH.In w A n (a :: (H ++ [b]))) (e : H.length = L.length)
    (hl : ∀ i (h : i < H.length) (h' : i < L.length), shP.In w H[i].A H[i].n L[i]) (ha : shP.In w a.A a.n x) (hb : shP.In w b.A b.n y) : InN w A n (a :: (H ++ [b])) (x :: (L ++ [y])) := by
  refine ⟨h, by simp [e], fun i h1 h2 => ?_⟩
  match i, h1, h2 with
  | 0, _, _ => exact ha
  | i + 1, h1, h2 =>
    simp only [List.length_cons, List.length_append, List.length_nil] at h1 h2
    show shP.In w ((H ++ [b])[i]'(by simp; omega)).A ((H ++ [b])[i]'(by simp; omega)).n ((L ++ [y])[i]'(by simp; omega))
    by_cases hi : i < H.length
    · rw [List.getElem_append_left hi, List.getElem_append_left (by omega)]; exact hl i hi (by omega)
    · obtain rfl : i = H.length := by omega
      rw [List.getElem_append_right (Nat.le_refl _), List.getElem_append_right (by omega)]
      simp [e]; exact hb
theorem vsH (H : List Hd) : shH.vs H = H.map fun h => .slice h.A h.n h.c := by
  induction H with
  | nil => rfl
  | cons a t ih => rw [shH.vs_cons, ih]; rfl
theorem infoH : (Tryz.prog.info? 22).map (fun i => (i.zero, i.size, i.bytes)) = some (some (.slice none 0 0), 1, 24) := by kernel_rfl

theorem own_one (w : World) (v : Value) (e : TypeId) (b : Nat) (hb : b = w.heap.size) : (w.alloc (.cells #[v] e)).ownsRow w.heap.size e 1 (.slice (some ⟨b, 0, none⟩) 1 1) 1 [v] := by
  subst hb
  exact ⟨rfl, .inr ⟨w.heap.size, 1, #[v], rfl, Nat.le_refl _, heap_alloc_new w _, Nat.le_refl _, by decide, rfl, rfl⟩⟩
set_option maxRecDepth 100000 in
set_option maxHeartbeats 8000000 in
theorem cfollows_walk (w : World) (A : Option Addr) (n c : Nat) (H : List Hd) (L : List (List PT)) (s : ByteArray) (hl : InN w A n H L) (hm : ∀ h ∈ H, h.n ≤ 9223372036854775807) (hn : n ≤ 9223372036854775807) (hc : n ≤ c) (hc2 : c ≤ 9223372036854775807) (hs : s.size ≤ 9223372036854775807) (ht : Tab w) :
    Calls Tryz.prog 9 #[.slice A n c, .string s] w fun e w' => e = .returned (.bool true) ∧ Below w.heap.size w w' := by
  obtain ⟨rfl, _⟩ := id hl.1
  have HAw := Lib.hid (fun w ht => cawake_any w ht)
  have HF := Lib.hid (fun w hl => r9fewall_any A H.length c H L w hl hn)
  have HF2 := Lib.hid (fun w => sfew_any s w hs)
  have hB := Below.refl w.heap.size w
  have HT := Lib.hid ht
  have HL := Lib.hid hl
  have HC := Lib.hid (And.intro hc hc2)
  clear hc hc2
  cases hfa : fewAll L with
  | false =>
    rw [hfa] at HF
    clear hl hm ht hfa
    go_enter Tryz.func9, Tryz.ntmps9
    go_wp2_with fail
    refine (HF.out _ (HL.out.below hB)).mono ?_
    rintro e wk ⟨rfl, hb⟩
    replace hB := hB.trans (hb.mono hB.size)
    clear hb
    go_wp2_with fail
    refine (HAw.out _ (HT.out.below hB)).mono ?_
    rintro e wk ⟨rfl, hb⟩
    replace hB := hB.trans (hb.mono hB.size)
    clear hb
    go_wp2_with fail
    go_ret
    exact ⟨rfl, hB⟩
  | true =>
    rw [hfa] at HF
    clear hfa
    by_cases h0 : H.length = 0
    · have g0 : ((H.length : Int) == 0) = true := by rw [h0]; rfl
      clear hl hm ht h0
      go_enter Tryz.func9, Tryz.ntmps9
      go_wp2_with fail
      refine (HF.out _ (HL.out.below hB)).mono ?_
      rintro e wk ⟨rfl, hb⟩
      replace hB := hB.trans (hb.mono hB.size)
      clear hb
      go_wp2_with fail
      refine (HAw.out _ (HT.out.below hB)).mono ?_
      rintro e wk ⟨rfl, hb⟩
      replace hB := hB.trans (hb.mono hB.size)
      clear hb
      go_wp2_with fail
      go_ret
      exact ⟨rfl, hB⟩
    · have g0 : ((H.length : Int) == 0) = false := by rw [beq_eq_false_iff_ne]; omega
      by_cases h4 : 4 < H.length
      · have g4 : (4 : Int) < (H.length : Int) := by omega
        clear hl hm ht
        go_enter Tryz.func9, Tryz.ntmps9
        go_wp2_with fail
        refine (HF.out _ (HL.out.below hB)).mono ?_
        rintro e wk ⟨rfl, hb⟩
        replace hB := hB.trans (hb.mono hB.size)
        clear hb
        go_wp2_with fail
        refine (HAw.out _ (HT.out.below hB)).mono ?_
        rintro e wk ⟨rfl, hb⟩
        replace hB := hB.trans (hb.mono hB.size)
        clear hb
        go_wp2_with fail
        go_ret
        exact ⟨rfl, hB⟩
      · have g4 : ¬ (4 : Int) < (H.length : Int) := by omega
        by_cases hfs : s.size ≤ 120
        · rw [decide_eq_true hfs] at HF2
          have HP2 := Lib.hid (fun w hl => r9through_any A H.length c H L s w hl hm hn hfs)
          by_cases hE : errT L s = 0
          · have hA0 : errA L = 0 := by
              unfold errT at hE
              by_cases h : errA L = 0
              · exact h
              · rw [if_pos h] at hE; exact absurd hE h
            obtain ⟨_, hok⟩ := errA_ok hA0
            have hlv : errLv s.data.toList = 0 := by unfold errT at hE; rwa [if_neg (fun h => h hA0)] at hE
            obtain ⟨r, hr, hz, hi⟩ : ∃ r, s = sR r ∧ SzR 120 r ∧ InL r := by
              rcases lev_cases s (by omega) with ⟨hc, he⟩ | ⟨r, hr, hz, hv, hc', ⟨hi, he⟩ | ⟨hi, he⟩⟩
              · exact absurd (he ▸ hlv) hc
              · omega
              · exact ⟨r, hr, size_SzR hr hfs (by decide), hi⟩
            subst hr
            have hlen : H.length = L.length := hl.2.1
            obtain ⟨m, hmL⟩ : ∃ m, H.length = m + 1 := ⟨H.length - 1, by omega⟩
            have hk : m < L.length := by omega
            have hkH : m < H.length := by omega
            have hsub : ∀ c ∈ L.take m, OkC c := fun c hc => hok c (List.mem_of_mem_take hc)
            have hwr : ∀ c ∈ straightC :: (L ++ [straightC]), OkC c := fun c hc => by
              rcases List.mem_cons.1 hc with rfl | hc
              · exact straight_ok
              · rcases List.mem_append.1 hc with h | h
                · exact hok c h
                · rw [List.mem_singleton.1 h]; exact straight_ok
            obtain ⟨e1, e2⟩ := thruT_of hok (by omega) hz (by decide) hi
            obtain ⟨e3, e4⟩ := thruT_of hsub (by rw [List.length_take]; omega) hz (by decide) hi
            obtain ⟨e5, e6⟩ := thruT_of hwr (by simp; omega) hz (by decide) hi
            obtain ⟨e7, e8⟩ := thruT_of (L := []) (fun c h => by cases h) (by decide) hz (by decide) hi
            rw [thru_wrap hok hi] at e6
            have hzm := thru_sz hsub hz hi
            have him := thru_in hsub hi
            have hlm : (L.take m).length ≤ 4 := by rw [List.length_take]; omega
            have hz4 : 120 + 28 * (L.take m).length ≤ 400 := by omega
            have elast : valC L[m] (thruC (L.take m) r) = thruC L r := by
              rw [← thru_take hk r, List.take_of_length_le (by omega)]
            have HP := Lib.hid (fun w hl ht => cthrough_any A H.length c H L (sR r) w hl hm hn hfs ht)
            have HPb := Lib.hid (fun w hl ht => cthrough_any A m c (H.take m) (L.take m) (sR r) w hl (fun h hh => hm h (List.mem_of_mem_take hh)) (by omega) hfs ht)
            have HPw := Lib.hid (fun A1 d (h1 h2 : Hd) (g1 : h1.n = 2) (g2 : h2.n = 2) w hl ht => cthrough_any A1 (1 + H.length + 1) d (h1 :: (H ++ [h2])) (straightC :: (L ++ [straightC])) (sR r) w hl (fun h hh => by
              rcases List.mem_cons.1 hh with rfl | hh
              · omega
              · rcases List.mem_append.1 hh with h' | h'
                · exact hm h h'
                · rw [List.mem_singleton.1 h']; omega) (by omega) hfs ht)
            have HPn := Lib.hid (fun w ht => cthrough_any none 0 0 [] [] (sR r) w ⟨Sh.In.nil _ _, rfl, fun i h => absurd h (Nat.not_lt_zero _)⟩ (fun h hh => by cases hh) (by decide) hfs ht)
            rw [e1, e2] at HP
            rw [e1, e2] at HP2
            rw [e3, e4] at HPb
            rw [e5, e6] at HPw
            rw [e7, e8] at HPn
            have HLast := Lib.hid (fun w (hl : shP.In w (H[m]'hkH).A (L[m]'hk).length (L[m]'hk)) (ht : Tab w) => at_ok (H[m]'hkH).A (H[m]'hkH).c (L[m]'hk) (hok _ (List.getElem_mem hk)) hzm hz4 him w hl ht)
            rw [elast] at HLast
            rw [show thruC [] r = r from rfl] at HPn
            have HStr := Lib.hid (show ∀ w, Calls Tryz.prog 22 #[] w fun e w' => ∃ A c, e = .returned (.slice A 2 c) ∧ w'.ownsRow w.heap.size 31 2 (.slice A 2 c) 2 (shP.vs straightC) ∧ Below w.heap.size w w' from fun w => (cstraight_any w).mono fun e w' ⟨r, he, A, c, hr, ho, hb⟩ => ⟨A, c, by rw [he, hr]; rfl, ho, hb⟩)
            obtain ⟨b, o, rfl, hbl, hcell⟩ := hd_at hl.1 (by omega)
            have hpm := hcell m (by omega)
            have hen : (H[m]'hkH).n = L[m].length := (hl.2.2 m (by omega) hk).1
            rw [hen] at hpm
            have HQm := Lib.hid (show shP.In w (H[m]'hkH).A L[m].length L[m] by have := hl.2.2 m (by omega) hk; rwa [hen] at this)
            have HTk := Lib.hid (hl.take m (by omega))
            have HSub := Lib.hid hl.2.2
            have HLen := Lib.hid hlen
            have HSh := Lib.hid hl.1.2
            have HCell := Lib.hid hcell
            clear hl hm ht hE hA0 hok hlv hz hi hsub hwr e1 e2 e3 e4 e5 e6 e7 e8 hzm him hlm elast hen hcell hlen
            have w1 : IntKind.i64.wrap ((H.length : Int) - 1) = (m : Int) := by rw [hmL]; push_cast; rw [Int.add_sub_cancel]; exact IntWalk.i64_in _ (by omega)
            have i0 : (0 : Int) ≤ (m : Int) := by omega
            have i1 : (m : Int) < (H.length : Int) := by omega
            have i2 : (m : Int) ≤ (c : Int) := by have := HC.out; omega
            have HmL := Lib.hid hmL
            clear hmL
            generalize (H[m]'hkH).A = Am at *
            generalize (H[m]'hkH).c = cm at *
            generalize L[m] = lm at *
            generalize sR (thruC L r) = Z at *
            generalize sR (thruC (L.take m) r) = Y at *
            generalize sR r = V at *
            go_enter Tryz.func9, Tryz.ntmps9
            go_wp2_with fail
            refine (HF.out _ (HL.out.below hB)).mono ?_
            rintro e wk ⟨rfl, hb⟩
            replace hB := hB.trans (hb.mono hB.size)
            clear hb
            go_wp2_with fail
            refine (HF2.out _).mono ?_
            rintro e wk ⟨rfl, hb⟩
            replace hB := hB.trans (hb.mono hB.size)
            clear hb
            go_wp2_with fail
            refine (HP2.out _ (HL.out.below hB)).mono ?_
            rintro e wk ⟨rfl, hb⟩
            replace hB := hB.trans (hb.mono hB.size)
            clear hb
            go_wp2_with fail
            refine (HP.out _ (HL.out.below hB) (HT.out.below hB)).mono ?_
            rintro e wk ⟨rfl, hb⟩
            replace hB := hB.trans (hb.mono hB.size)
            clear hb
            go_wp2_with fail
            refine (HPb.out _ (HTk.out.below hB) (HT.out.below hB)).mono ?_
            rintro e wk ⟨rfl, hb⟩
            replace hB := hB.trans (hb.mono hB.size)
            clear hb
            have hp := (hB.cell (p := ⟨b, o + m, none⟩) hbl).trans hpm
            have hbw : b < wk.heap.size := Nat.lt_of_lt_of_le hbl hB.size
            go_wp2_with fail
            refine (HLast.out _ (HQm.out.below hB) (HT.out.below hB)).mono ?_
            rintro e wk ⟨rfl, hb⟩
            replace hB := hB.trans (hb.mono hB.size)
            clear hb
            clear hp hbw
            obtain ⟨i0', hi', hz0, hzz1, hz2⟩ := info_parts infoH
            have HNw := Lib.hid (show ∀ w', Below w.heap.size w w' → ∀ j u, (shH.vs H)[j]? = some u → w'.cell? ((⟨b, o, none⟩ : Addr).add j) = some u from fun w' hw j u hu => by
              have hlt : j < (shH.vs H).length := (List.getElem?_eq_some_iff.1 hu).1
              obtain ⟨_, hS⟩ := HSh.out
              obtain ⟨b', o', e, hb', hc'⟩ := hS (by have := HmL.out; omega)
              injection e with e
              injection e with e1 e2
              subst e1 e2
              have := (hw.cell (p := ⟨b, o + j, none⟩) hbl).trans (hc' j u hu)
              rwa [show ((⟨b, o, none⟩ : Addr).add j) = ⟨b, o + j, none⟩ by unfold Addr.add; split <;> simp_all])
            have HVl := Lib.hid (show (shH.vs H).length = H.length * 1 from shH.vs_length H)
            have HVo := Lib.hid (shH.vs_one H)
            have HVs := Lib.hid (show ∀ A1 c1 A2 c2, Value.slice A1 2 c1 :: (shH.vs H ++ [Value.slice A2 2 c2]) = shH.vs (⟨A1, 2, c1⟩ :: (H ++ [⟨A2, 2, c2⟩])) from fun A1 c1 A2 c2 => by
              rw [shH.vs_cons, shH.vs_append, shH.vs_one1]; rfl)
            have HmH := Lib.hid (show 0 < H.length ∧ H.length ≤ 4 by omega)
            generalize shH.vs H = VS at *
            have HB0 := Lib.hid hB
            have hB := Below.refl wk.heap.size wk
            go_wp2_with fail
            refine (HStr.out _).mono ?_
            rintro e w1 ⟨A1, c1, rfl, ho1, hb1⟩
            have HO1 := Lib.hid ho1
            have HB1 := Lib.hid (HB0.out.trans (hb1.mono HB0.out.size))
            clear ho1 hb1 hB
            have HOwn := Lib.hid (own_one w1 (.slice A1 2 c1) 22 _ rfl)
            go_wp2_with (at_builtin; refine wpList_append_lies _ rfl _ _ 52 rfl w1.heap.size 22 i0' _ 1 24 Tryz.underlying52 hi' hz0 hzz1 hz2 rfl (by decide) _ _ _ rfl HOwn.out ⟨b, o, none⟩ H.length c VS rfl HVl.out (HNw.out _ (HB1.out.alloc HB1.out.size _)) HVo.out HmH.out.1 (by have := HmH.out; unfold maxLen; omega) (by have := HmH.out; omega) (by simp) _ rfl ?_)
            intro g cap w2 hown2 hg2 hat hlt
            have hb2 : Below w1.heap.size w1 w2 := ((Below.refl _ w1).alloc (Nat.le_refl _) _).grown hg2 (by simp) (by intro k hk; simp [Value.ownBlock] at hk; omega)
            have HB2 := Lib.hid hb2
            have HOwn2 := Lib.hid hown2
            have Hlt := Lib.hid hlt
            clear hat hg2 hown2 hlt hb2
            go_wp2_with fail
            refine (HStr.out _).mono ?_
            rintro e w3 ⟨A2, c2, rfl, ho2, hb3⟩
            have HO2 := Lib.hid ho2
            have HB3 := Lib.hid hb3
            clear ho2 hb3
            have HOwn3 := Lib.hid ((own_below HOwn2.out HB3.out).alloc (.cells #[Value.slice A2 2 c2] 22))
            have hz13 : w1.heap.size ≤ w3.heap.size := Nat.le_trans HB2.out.size HB3.out.size
            have HZ13 := Lib.hid hz13
            clear hz13
            go_wp2_with (at_builtin; refine wpList_append_lies _ rfl _ _ 52 rfl w1.heap.size 22 i0' _ 1 24 Tryz.underlying52 hi' hz0 hzz1 hz2 rfl (by decide) _ _ _ rfl HOwn3.out ⟨w3.heap.size, 0, none⟩ 1 1 [Value.slice A2 2 c2] rfl rfl (cells_new _ _ _) (by simp; rfl) (by decide) (by have := HmH.out; unfold maxLen; omega) (by have := HmH.out; omega) (by have := HZ13.out; simp; omega) _ rfl ?_)
            intro g' cap' w4 hown4 hg4 hat4 hlt4
            rw [HVs.out] at hown4
            have h14 : Below w1.heap.size w1 w4 := below_push ((HB2.out.trans (HB3.out.mono HB2.out.size)).alloc HZ13.out _) (Nat.le_refl _) HOwn3.out hg4
            have hB := HB1.out.trans (h14.mono HB1.out.size)
            have hi2 : shP.In w4 A2 2 straightC := Sh.In.of_own ((HO2.out.alloc _).kept hg4 (.inr fun e => by
              have h1 := (HO2.out.lt g e).1
              have h2 := Hlt.out
              omega)) rfl
            have hI := InN.wrap (a := ⟨A1, 2, c1⟩) (b := ⟨A2, 2, c2⟩) (H := H) (L := L) (x := straightC) (y := straightC) (Sh.In.of_own hown4 (by simp; omega)) HLen.out (fun i h h' => (HSub.out i h h').below hB) ((Sh.In.of_own HO1.out rfl).below h14) hi2
            have HI := Lib.hid hI
            clear hown4 hg4 hat4 hlt4 h14 hi2 hI HOwn3 HO2 HOwn2 HO1 HOwn HB3 HB2 HB1 HZ13
            go_wp2_with fail
            refine (HPw.out _ _ _ _ rfl rfl _ HI.out (HT.out.below hB)).mono ?_
            rintro e wk ⟨rfl, hb⟩
            replace hB := hB.trans (hb.mono hB.size)
            clear hb
            go_wp2_with fail
            refine (HPn.out _ (HT.out.below hB)).mono ?_
            rintro e wk ⟨rfl, hb⟩
            replace hB := hB.trans (hb.mono hB.size)
            clear hb
            go_wp2_with fail
            refine (HAw.out _ (HT.out.below hB)).mono ?_
            rintro e wk ⟨rfl, hb⟩
            replace hB := hB.trans (hb.mono hB.size)
            clear hb
            go_wp2_with fail
            go_ret
            exact ⟨rfl, hB⟩
          · have HE := Lib.hid hE
            clear hl hm ht
            generalize thruT L s = V at *
            generalize errT L s = E at *
            have g1 : (E == 0) = false := by simpa using hE
            have g2 : (E != 0) = true := by simpa using hE
            clear hE HE
            go_enter Tryz.func9, Tryz.ntmps9
            go_wp2_with fail
            refine (HF.out _ (HL.out.below hB)).mono ?_
            rintro e wk ⟨rfl, hb⟩
            replace hB := hB.trans (hb.mono hB.size)
            clear hb
            go_wp2_with fail
            refine (HF2.out _).mono ?_
            rintro e wk ⟨rfl, hb⟩
            replace hB := hB.trans (hb.mono hB.size)
            clear hb
            go_wp2_with fail
            refine (HP2.out _ (HL.out.below hB)).mono ?_
            rintro e wk ⟨rfl, hb⟩
            replace hB := hB.trans (hb.mono hB.size)
            clear hb
            go_wp2_with fail
            refine (HAw.out _ (HT.out.below hB)).mono ?_
            rintro e wk ⟨rfl, hb⟩
            replace hB := hB.trans (hb.mono hB.size)
            clear hb
            go_wp2_with fail
            go_ret
            exact ⟨rfl, hB⟩
        · rw [decide_eq_false hfs] at HF2
          clear hl hm ht
          go_enter Tryz.func9, Tryz.ntmps9
          go_wp2_with fail
          refine (HF.out _ (HL.out.below hB)).mono ?_
          rintro e wk ⟨rfl, hb⟩
          replace hB := hB.trans (hb.mono hB.size)
          clear hb
          go_wp2_with fail
          refine (HF2.out _).mono ?_
          rintro e wk ⟨rfl, hb⟩
          replace hB := hB.trans (hb.mono hB.size)
          clear hb
          go_wp2_with fail
          refine (HAw.out _ (HT.out.below hB)).mono ?_
          rintro e wk ⟨rfl, hb⟩
          replace hB := hB.trans (hb.mono hB.size)
          clear hb
          go_wp2_with fail
          go_ret
          exact ⟨rfl, hB⟩
theorem curve_follows (w : World) (A : Option Addr) (n c : Nat) (H : List Hd) (hl : shH.In w A n H) (hg : ∀ g ∈ H, (∃ l, shP.In w g.A g.n l) ∧ g.n ≤ maxLen) (hn : n ≤ maxLen) (hc : n ≤ c ∧ c ≤ maxLen) (s : ByteArray) (hs : s.size ≤ maxLen) (hL : Laid w) :
    Calls Tryz.prog 9 #[.slice A n c, .string s] w fun e w' => e = .returned (.bool true) ∧ Below w.heap.size w w' := by
  obtain ⟨L, h⟩ := curves_of hl hg
  exact cfollows_walk w A n c H L s h (fun g hh => by have := (hg g hh).2; unfold maxLen at this; omega) (by unfold maxLen at hn; omega) hc.1 (by have := hc.2; unfold maxLen at this; omega) (by unfold maxLen at hs; omega) hL.1
end Go.Proofs.YtfehefafgghopaaGreatDoor

namespace Go.Proofs.YtfehefafgghopaaGreatDoor
open Go.ChangeShapes Go.WideShapes Go.ChangeAt Go.RowKit Go.Deep

theorem open_cap {HH : Type} {enc : TypeId × Value → HH} {w : World} {base : Nat} {spare : Nat → Bool} {held : Bool} {t e : TypeId} {fuel : Nat} {A : Option Addr} {n c : Nat} {x : DataW HH × List MemPlace} (ht : Tryz.prog.underlying t = some (.slice e))
    (h : DataW.trod enc Tryz.prog w base spare held fuel t [.slice A n c] = some x) : n ≤ c ∧ c ≤ maxLen := by
  rcases open_slice ht h with ⟨h1, _⟩ | ⟨a, len, cap, m, k, D, Pl, hcs, hb, hl, hm, _⟩
  · simp at h1
    obtain ⟨rfl, rfl, rfl⟩ := h1
    exact ⟨Nat.le_refl _, Nat.zero_le _⟩
  · simp at hcs
    obtain ⟨rfl, rfl, rfl⟩ := hcs
    exact ⟨hl, hm⟩
end Go.Proofs.YtfehefafgghopaaGreatDoor

namespace Go.Proofs.YtfehefafgghopaaGreatDoor.curveFollowsP
open Go.ChangeShapes Go.ChangeMaps Go.WideShapes Go.ChangeAt Go.RowKit

set_option maxRecDepth 100000 in
theorem lifted (os : Os) (started : os.Started) (H : Type) (enc : TypeId × Value → H) :
    ReturnsInHanded {} Tryz.checked os 9 .any (fun w args => (Rows.curveFollowsSpec.pre enc Tryz.prog Tryz.f9 [] false w args ∧ laidMetH Tryz.prog Rows.curveFollowsRow.laid w) ∧ sizedMet enc Tryz.prog Tryz.f9 (OpenSpec.ofChange Rows.curveFollowsSpec) false w args)
      (Rows.curveFollowsSpec.post enc Tryz.prog Tryz.f9 false true false false) := by
  refine returnsInHanded_of_change_and (C := Tryz.checked) (X := fun w _ => laidMetH Tryz.prog Rows.curveFollowsRow.laid w) (fun _ _ _ hh h => h.of_heap hh) own_ started (by kernel_rfl) Tryz.func9
    (ChangeSpec.witness_at (enc := enc) (C := Tryz.checked) (os := os) (X := fun w _ => laidMetH Tryz.prog Rows.curveFollowsRow.laid w) false (laidWorld os) #[.slice none 0 0, .string ⟨#[]⟩] 8 rfl (by kernel_rfl) (by kernel_rfl) (by kernel_rfl) (by kernel_rfl) (by kernel_rfl) (laid_met os _)) ?_
  intro W base args ds gs before hval0 hW _ hWt hL _
  have hval : ∀ (j : Nat) t v, Tryz.f9.params[j]? = some t → args[j]? = some v → Value.okWide Tryz.prog W .any base t v := hval0
  have hW' := hW
  obtain ⟨p, q, hA0, hV, rfl, hfz, hnd⟩ := hW
  have hA : DataW.TrodAll enc Tryz.prog W 0 (fun _ => true) true Tryz.f9.params.toList args.toList ds p := hA0
  rw [Tryz.params9] at hA hval hWt
  obtain ⟨v0, vs0, d0, ds0, p0, q0, hargs, rfl, rfl, h0, r0⟩ := trodAll_cons hA
  obtain ⟨v1, vs1, d1, ds1, p1, q1, rfl, rfl, rfl, h1, r1⟩ := trodAll_cons r0
  obtain ⟨rfl, rfl, rfl⟩ := trodAll_nil r1
  obtain rfl : args = #[v0, v1] := by cases args; simp_all
  obtain ⟨rfl, rfl⟩ := trodVars_none hV
  have lt0 : ∀ x ∈ p0, x.block < W.heap.size := by obtain ⟨m, hm⟩ := h0; exact DataW.trod_lt m _ _ _ hm
  obtain ⟨A0, n0, c0, rfl⟩ := okWide_slice Tryz.underlying52 (hval 0 52 v0 rfl rfl)
  have k0 := h0
  obtain ⟨fuel0, hf0⟩ := k0
  obtain ⟨l0, hl0, hg0, hn0, hx0⟩ := open_rows shH Tryz.underlying52 (by kernel_rfl : Tryz.prog.cellsOf 22 = shH.z) (by decide) ⟨none, 0, 0⟩ _ (fun _ _ _ h => curve_cells h) hf0
  have hc0 := open_cap Tryz.underlying52 hf0
  obtain ⟨x1, rfl, rfl, rfl, w1⟩ := open_string Tryz.underlying23 (hval 1 23 v1 rfl rfl) h1
  clear hA0 hval0 hWt
  simp only [List.append_nil] at hW'
  refine (curve_follows W A0 n0 c0 l0 hl0 hg0 hn0 hc0 x1 w1 (laid_of hL)).mono fun e W' ⟨he, bel⟩ => ?_
  subst he
  exact ⟨_, rfl, _, _, _, [], _, [], hW', trodAll_mk1 (shut_bool Tryz.underlying4 _), (trodAll_cons_mk (Below.trod laidOut (by kernel_rfl) (of_decide_eq_true (by kernel_rfl)) h0 bel lt0) (trodAll_cons_mk (shut_string Tryz.underlying23 w1) trodAll_mk0)), rfl, bel.frame _, fun h => by cases h⟩

theorem over : Rows.curveFollowsRow.holds Tryz.pinned (OpenSpec.ofChange Rows.curveFollowsSpec) :=
  OpenClaim.holds_of_wide 9 Tryz.f9 rfl rfl rfl rfl rfl rfl rfl ⟨rfl, rfl, rfl, rfl, rfl⟩ rfl rfl rfl rfl rfl (by kernel_rfl) Tryz.func9 curveFollows_facts
    (of_decide_eq_true (by kernel_rfl)) (by unfold Func.isWrapper; rw [if_neg (of_decide_eq_false (by kernel_rfl))]; exact ⟨rfl, rfl⟩)
    (fun os started H enc _ => lifted os started H enc)

theorem noStandIn : ∀ t ∈ Tryz.f9.params.toList, Tryz.prog.wantsStandIn t = false := by
  rw [Tryz.params9]
  intro t ht
  simp only [List.mem_cons, List.not_mem_nil, or_false] at ht
  rcases ht with rfl | rfl <;> kernel_rfl

theorem proved : Rows.CurveFollowsCardSaid :=
  Claim7.holds_tied_plain_at .later [] [.data, .data, .data, .data, .sentinel, .sentinel, .pinned] true (true, "7e007695281886813cdef532baba37053e1c23961511217fdbbfe3c0579aab35") true
    over (fun _ h => by cases h) (by kernel_rfl) (fun _ h => by cases h) curveFollows_row_tie rfl ⟨rfl, rfl⟩ (by kernel_rfl) rfl
    (fun f fn hf hfn => by
      obtain rfl : f = 9 := Option.some.inj ((show Tryz.prog.funcNamed "luminaire/luminairelaw09.CurveFollows" = some 9 by kernel_rfl).symm.trans hf) |>.symm
      obtain rfl : fn = Tryz.f9 := (Option.some.inj (Tryz.func9.symm.trans hfn)).symm
      exact ⟨by kernel_rfl, fun j t ht => noStandIn t (Array.mem_toList_iff.2 (Array.mem_of_getElem? ht))⟩)
    (by kernel_rfl)
#print axioms proved
end Go.Proofs.YtfehefafgghopaaGreatDoor.curveFollowsP
