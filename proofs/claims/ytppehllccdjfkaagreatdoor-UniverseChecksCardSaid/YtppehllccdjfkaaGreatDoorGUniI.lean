/- Lemmas and contracts of functions, joined for the claim: Law13c, ULaw, UPlainR. -/
import Derived.Test.YtppehllccdjfkaaGreatDoorGUniD
import Derived.Test.YtppehllccdjfkaaGreatDoorGUniE
import Derived.Test.YtppehllccdjfkaaGreatDoorGUniF
import Derived.Test.YtppehllccdjfkaaGreatDoorGUniG
import Derived.Test.YtppehllccdjfkaaGreatDoorGLaw
namespace Go.Proofs.YtppehllccdjfkaaGreatDoor
open Go.RowKit

set_option maxHeartbeats 2000000 in
theorem lown_any (A0 : Option Addr) (n0 d0 : Nat) (A1 : Option Addr) (n1 d1 : Nat) (A2 : Option Addr) (n2 d2 : Nat) (w : World) :
    Calls Tryz.prog 13 #[.agg #[.slice A0 n0 d0, .slice A1 n1 d1, .slice A2 n2 d2]] w fun e w' => e = .returned (.agg #[.slice A0 n0 d0, .slice A1 n1 d1, .slice A2 n2 d2]) ∧ Below w.heap.size w w' := by
  go_enter Tryz.func13, Tryz.ntmps13
  go_wp2_with fail
  (try simp only [Exit.inBlock, Exit.then])
  refine bodyPost_ret (v := .agg #[.slice A0 n0 d0, .slice A1 n1 d1, .slice A2 n2 d2]) ?_ rfl ⟨rfl, ((Below.refl _ w).alloc (Nat.le_refl _) _).alloc (by simp) _⟩
  rw [res_cell1 rfl]
  go_simp
set_option maxRecDepth 100000 in
set_option maxHeartbeats 16000000 in
theorem uchecks_walk (w : World) (g : RG) (H : List Hd) (L : List (List PT)) (PL : List (PC × List Fea)) (X : List Fx) (hg : g.Is w H L PL X) (A : Option Addr) (n c : Nat) (l : List Fm) (hl : shFm.In w A n l) (hn : n ≤ 9223372036854775806) (hs : ∀ x ∈ l, x.sl.size ≤ 9223372036854775807) (u a : Int) (ht : Tab w) (hr : Rng w) :
    Calls Tryz.prog 4 #[.agg g.cs.toArray, .slice A n c, .agg #[.int .i64 u, .int .i64 a]] w fun e w' => e = .returned (.bool true) ∧ Below w.heap.size w w' := by
  obtain ⟨A0, n0, d0, A1, n1, d1, A2, n2, d2⟩ := g
  obtain ⟨rfl, _⟩ := id hl
  show Calls Tryz.prog 4 #[.agg #[.slice A0 n0 d0, .slice A1 n1 d1, .slice A2 n2 d2], .slice A l.length c, .agg #[.int .i64 u, .int .i64 a]] w fun e w' => e = .returned (.bool true) ∧ Below w.heap.size w w'
  obtain ⟨⟨hl0, hm, hn0⟩, ⟨hp, hpo, hnd1, hd1⟩, hx, ⟨hnd2, hd2⟩, hcb⟩ := hg
  dsimp only at hl0 hn0 hp hnd1 hd1 hx hnd2 hd2
  have HOw := Lib.hid (fun w => lown_any A0 n0 d0 A1 n1 d1 A2 n2 d2 w)
  have HAw := Lib.hid (fun w ht hr => uawake_any w ht hr)
  have HFr := Lib.hid (fun w h1 h2 => rfewrg_any A0 n0 d0 H L A1 n1 d1 PL A2 n2 d2 w h1 hn0 h2 (Nat.le_trans hnd1 hd1))
  have HFa := Lib.hid (fun w h => rfewfm_any A l.length c l w h hn)
  have HSl := Lib.hid (fun w h => uSlot_any A l.length c l u a w h hn hs)
  have HRs := Lib.hid (fun w h => rSlot13_any A l.length c l u a w h hn hs)
  have HRt := Lib.hid (fun w h => uright_any A l.length c l w h hn hs)
  have HRr := Lib.hid (fun w h => rright_any A l.length c l w h hn hs)
  have HSm := Lib.hid (fun B m d k w h1 h2 (hm : m ≤ 9223372036854775807) => uSame_any A B l.length m c d l k w h1 h2 (by omega) hm)
  have HCk := Lib.hid (fun w h1 h2 h3 (hn1 : n1 ≤ 9223372036854775806) => uCheck_any A0 n0 d0 H L A1 n1 d1 PL A2 n2 d2 X w h1 hm h2 hn1 h3 hnd2 hd2 hcb)
  have HRc := Lib.hid (fun w h1 h2 h3 (hn1 : n1 ≤ 9223372036854775806) (hn2 : n2 ≤ 9223372036854775806) => rcheckrg_any A0 n0 d0 H L A1 n1 d1 PL A2 n2 d2 X w h1 hm hn0 h2 hpo hn1 hnd1 hd1 h3 hn2 hcb)
  have HRL := Lib.hid (And.intro hl0 (And.intro hp hx))
  have HL := Lib.hid hl
  have HT := Lib.hid ht
  have HRg := Lib.hid hr
  have HN := Lib.hid hn
  have hn1l : n1 = PL.length := by have := hp.1.1; simpa using this
  have HN1 := Lib.hid hn1l
  generalize slV l u a = SV at *
  generalize slE l u a = SE at *
  generalize rightE l = RE at *
  generalize uniE L PL X = UE at *
  clear hl hn hs ht hr hl0 hm hn0 hp hpo hnd1 hd1 hx hnd2 hd2 hcb hn1l
  obtain ⟨W, hW⟩ : ∃ W, W = ((w.alloc (.cells #[.slice A0 n0 d0, .slice A1 n1 d1, .slice A2 n2 d2] 26)).alloc (.cells #[.int .i64 u, .int .i64 a] 41)) := ⟨_, rfl⟩
  obtain ⟨hB0, hK0⟩ := box2 #[.slice A0 n0 d0, .slice A1 n1 d1, .slice A2 n2 d2] 26 #[.int .i64 u, .int .i64 a] 41 w W hW
  have hK : ∀ w', Below W.heap.size W w' → w'.cell? ⟨w.heap.size, 0, none⟩ = some (.slice A0 n0 d0) ∧ w'.cell? ⟨w.heap.size, 1, none⟩ = some (.slice A1 n1 d1) ∧ w'.cell? ⟨w.heap.size, 2, none⟩ = some (.slice A2 n2 d2) ∧ w'.cell? ⟨w.heap.size + 1, 0, none⟩ = some (.int .i64 u) ∧ w'.cell? ⟨w.heap.size + 1, 1, none⟩ = some (.int .i64 a) := fun w' h => ⟨(hK0 w' h).1 0 _ rfl, (hK0 w' h).1 1 _ rfl, (hK0 w' h).1 2 _ rfl, (hK0 w' h).2 0 _ rfl, (hK0 w' h).2 1 _ rfl⟩
  have HK := Lib.hid hK
  have HW := Lib.hid hW
  have HB0 := Lib.hid hB0
  have hB := Below.refl W.heap.size W
  obtain ⟨c0, c1, c2, c3, c4⟩ := hK W hB
  clear hW hB0 hK hK0
  have HRLb := Lib.hid (fun (w' : World) (h : Below W.heap.size W w') => show InN w' A0 n0 H L ∧ InR w' A1 n1 PL ∧ shX.In w' A2 n2 X from ⟨(HRL.out.1.below HB0.out).below h, (HRL.out.2.1.below HB0.out).below h, (HRL.out.2.2.below HB0.out).below h⟩)
  replace HL := Lib.hid (HL.out.below HB0.out)
  replace HT := Lib.hid (HT.out.below HB0.out)
  replace HRg := Lib.hid (HRg.out.below HB0.out)
  have HFin := Lib.hid (fun (w' : World) (h : Below W.heap.size W w') => HB0.out.trans (h.mono HB0.out.size))
  cases hfr : fewRg L PL n2 with
  | false =>
    rw [hfr] at HFr
    clear hfr
    go_enter Tryz.func4, Tryz.ntmps4
    go_wp2_with fail
    rw [← HW.out]
    refine (HOw.out _).mono ?_
    rintro e wk ⟨rfl, hb⟩
    replace hB := hB.trans (hb.mono hB.size)
    clear hb
    obtain ⟨c0, c1, c2, c3, c4⟩ := HK.out _ hB
    go_wp2_with fail
    refine (HFr.out _ (HRLb.out _ hB).1 (HRLb.out _ hB).2.1).mono ?_
    rintro e wk ⟨rfl, hb⟩
    replace hB := hB.trans (hb.mono hB.size)
    clear hb
    obtain ⟨c0, c1, c2, c3, c4⟩ := HK.out _ hB
    go_wp2_with fail
    refine (HAw.out _ (HT.out.below hB) (HRg.out.below hB)).mono ?_
    rintro e wk ⟨rfl, hb⟩
    replace hB := hB.trans (hb.mono hB.size)
    clear hb
    go_wp2_with fail
    go_ret
    exact ⟨rfl, HB0.out.trans (hB.mono HB0.out.size)⟩
  | true =>
    have hfw := fewRg_of hfr
    have hn1 : n1 ≤ 40 := by rw [HN1.out]; exact hfw.1
    have hn2 : n2 ≤ 70 := hfw.2.1
    have HRLc := Lib.hid (fun (w' : World) (h : Below W.heap.size W w') => show InN w' A0 n0 H L ∧ InPs w' A1 n1 PL ∧ shX.In w' A2 n2 X from ⟨(HRLb.out _ h).1, (HRLb.out _ h).2.1.few hfr, (HRLb.out _ h).2.2⟩)
    replace HCk := Lib.hid (fun w (h : InN w A0 n0 H L ∧ InPs w A1 n1 PL ∧ shX.In w A2 n2 X) => HCk.out w h.1 h.2.1 h.2.2 (by omega))
    replace HRc := Lib.hid (fun w (h : InN w A0 n0 H L ∧ InPs w A1 n1 PL ∧ shX.In w A2 n2 X) => HRc.out w h.1 h.2.1 h.2.2 (by omega) (by omega))
    rw [hfr] at HFr
    clear hfr hfw hn1 hn2
    cases hfa : fewFm l with
    | false =>
      rw [hfa] at HFa
      clear hfa
      go_enter Tryz.func4, Tryz.ntmps4
      go_wp2_with fail
      rw [← HW.out]
      refine (HOw.out _).mono ?_
      rintro e wk ⟨rfl, hb⟩
      replace hB := hB.trans (hb.mono hB.size)
      clear hb
      obtain ⟨c0, c1, c2, c3, c4⟩ := HK.out _ hB
      go_wp2_with fail
      refine (HFr.out _ (HRLb.out _ hB).1 (HRLb.out _ hB).2.1).mono ?_
      rintro e wk ⟨rfl, hb⟩
      replace hB := hB.trans (hb.mono hB.size)
      clear hb
      obtain ⟨c0, c1, c2, c3, c4⟩ := HK.out _ hB
      go_wp2_with fail
      refine (HFa.out _ (HL.out.below hB)).mono ?_
      rintro e wk ⟨rfl, hb⟩
      replace hB := hB.trans (hb.mono hB.size)
      clear hb
      obtain ⟨c0, c1, c2, c3, c4⟩ := HK.out _ hB
      go_wp2_with fail
      refine (HAw.out _ (HT.out.below hB) (HRg.out.below hB)).mono ?_
      rintro e wk ⟨rfl, hb⟩
      replace hB := hB.trans (hb.mono hB.size)
      clear hb
      go_wp2_with fail
      go_ret
      exact ⟨rfl, HB0.out.trans (hB.mono HB0.out.size)⟩
    | true =>
      rw [hfa] at HFa
      obtain ⟨SmOf, hSm⟩ : ∃ SmOf : Option Addr → Nat → Nat → Bool → Prop, SmOf = fun B m d q => ∀ w', Below W.heap.size W w' → Calls Tryz.prog 26 #[.slice A l.length c, .slice B m d] w' fun e w'' => e = .returned (.bool q) ∧ Below w'.heap.size w' w'' := ⟨_, rfl⟩
      have hs1 : SmOf A l.length c true := by
        rw [hSm]
        intro w' h
        have h2 := HSm.out A l.length c l w' (HL.out.below h) (HL.out.below h) (by have := HN.out; omega)
        rw [decide_eq_true (rfl : l = l)] at h2
        exact h2
      obtain ⟨q0, hq0⟩ : ∃ q0 : Bool, q0 = decide (l.length = 0) := ⟨_, rfl⟩
      have hs2 : SmOf none 0 0 q0 := by
        rw [hSm]
        intro w' h
        have h2 := HSm.out none 0 0 [] w' (HL.out.below h) (Sh.In.nil w' none) (by omega)
        rw [show decide (l = []) = q0 by rw [hq0, decide_eq_decide]; exact List.length_eq_zero_iff.symm] at h2
        exact h2
      have hq1 : ((l.length : Int) == 0) = q0 := by rw [hq0, Bool.eq_iff_iff]; simp
      have HSz := Lib.hid (fun B m d q (h : SmOf B m d q) => show ∀ w', Below W.heap.size W w' → Calls Tryz.prog 26 #[.slice A l.length c, .slice B m d] w' fun e w'' => e = .returned (.bool q) ∧ Below w'.heap.size w' w'' from by rw [hSm] at h; exact h)
      clear hSm hfa hq0 HSm
      go_enter Tryz.func4, Tryz.ntmps4
      go_wp2_with fail
      rw [← HW.out]
      refine (HOw.out _).mono ?_
      rintro e wk ⟨rfl, hb⟩
      replace hB := hB.trans (hb.mono hB.size)
      clear hb
      obtain ⟨c0, c1, c2, c3, c4⟩ := HK.out _ hB
      go_wp2_with fail
      refine (HFr.out _ (HRLb.out _ hB).1 (HRLb.out _ hB).2.1).mono ?_
      rintro e wk ⟨rfl, hb⟩
      replace hB := hB.trans (hb.mono hB.size)
      clear hb
      obtain ⟨c0, c1, c2, c3, c4⟩ := HK.out _ hB
      go_wp2_with fail
      refine (HFa.out _ (HL.out.below hB)).mono ?_
      rintro e wk ⟨rfl, hb⟩
      replace hB := hB.trans (hb.mono hB.size)
      clear hb
      obtain ⟨c0, c1, c2, c3, c4⟩ := HK.out _ hB
      go_wp2_with fail
      refine (HSl.out _ (HL.out.below hB)).mono ?_
      rintro e wk ⟨rfl, hb⟩
      replace hB := hB.trans (hb.mono hB.size)
      clear hb
      obtain ⟨c0, c1, c2, c3, c4⟩ := HK.out _ hB
      go_wp2_with fail
      refine (HRs.out _ (HL.out.below hB)).mono ?_
      rintro e wk ⟨rfl, hb⟩
      replace hB := hB.trans (hb.mono hB.size)
      clear hb
      obtain ⟨c0, c1, c2, c3, c4⟩ := HK.out _ hB
      go_wp2_with fail
      replace hB := below_drewN hB 1
      obtain ⟨c0, c1, c2, c3, c4⟩ := HK.out _ hB
      go_region_held3 (fun w' => w'.cell? ⟨w.heap.size, 0, none⟩ = some (.slice A0 n0 d0) ∧ w'.cell? ⟨w.heap.size, 1, none⟩ = some (.slice A1 n1 d1) ∧ w'.cell? ⟨w.heap.size, 2, none⟩ = some (.slice A2 n2 d2)) (exact ⟨c0, c1, c2⟩) (first | (go_at_call 15; refine (HAw.out _ (HT.out.below hB) (HRg.out.below hB)).mono ?_; rintro e wk ⟨rfl, hb⟩; replace hB := hB.trans (hb.mono hB.size); clear hb; obtain ⟨c0, c1, c2, c3, c4⟩ := HK.out _ hB) | (go_at_call 22; refine (HCk.out _ (HRLc.out _ hB)).mono ?_; rintro e wk ⟨rfl, hb⟩; replace hB := hB.trans (hb.mono hB.size); clear hb; obtain ⟨c0, c1, c2, c3, c4⟩ := HK.out _ hB) | (go_at_call 13; refine (HOw.out _).mono ?_; rintro e wk ⟨rfl, hb⟩; replace hB := hB.trans (hb.mono hB.size); clear hb; obtain ⟨c0, c1, c2, c3, c4⟩ := HK.out _ hB) | (go_at_call 23; refine (HRc.out _ (HRLc.out _ hB)).mono ?_; rintro e wk ⟨rfl, hb⟩; replace hB := hB.trans (hb.mono hB.size); clear hb; obtain ⟨c0, c1, c2, c3, c4⟩ := HK.out _ hB) | (go_at_call 24; refine (HRt.out _ (HL.out.below hB)).mono ?_; rintro e wk ⟨rfl, hb⟩; replace hB := hB.trans (hb.mono hB.size); clear hb; obtain ⟨c0, c1, c2, c3, c4⟩ := HK.out _ hB) | (go_at_call 25; refine (HRr.out _ (HL.out.below hB)).mono ?_; rintro e wk ⟨rfl, hb⟩; replace hB := hB.trans (hb.mono hB.size); clear hb; obtain ⟨c0, c1, c2, c3, c4⟩ := HK.out _ hB) | (go_at_call 26; refine (HSz.out _ _ _ _ (by assumption) _ hB).mono ?_; rintro e wk ⟨rfl, hb⟩; replace hB := hB.trans (hb.mono hB.size); clear hb; obtain ⟨c0, c1, c2, c3, c4⟩ := HK.out _ hB))
      go_wp2_with fail
      go_ret
      exact ⟨by first | rfl | exact ret_b (by simp), HFin.out _ hB⟩
theorem universe_checks (w : World) (g : RG) (hg : g.good w) (A : Option Addr) (n c : Nat) (l : List Fm) (hl : shFm.In w A n l) (hgl : ∀ g ∈ l, g.good) (_ : n ≤ maxLen) (hby : n * 24 ≤ reachBytes) (p : Int × Int) (_ : OkI p.1 ∧ OkI p.2) (hL : Laid w) :
    Calls Tryz.prog 4 #[.agg g.cs.toArray, .slice A n c, .agg [.int .i64 p.1, .int .i64 p.2].toArray] w fun e w' => e = .returned (.bool true) ∧ Below w.heap.size w w' := by
  obtain ⟨H, L, PL, X, hg⟩ := hg
  exact uchecks_walk w g H L PL X hg A n c l hl (by unfold reachBytes at hby; omega) (fun x hx => by have h := hgl x hx; unfold Fm.good maxLen at h; omega) p.1 p.2 hL.1 hL.2
end Go.Proofs.YtppehllccdjfkaaGreatDoor

namespace Go.Proofs.YtppehllccdjfkaaGreatDoor
open Go.RowKit

end Go.Proofs.YtppehllccdjfkaaGreatDoor

namespace Go.Proofs.YtppehllccdjfkaaGreatDoor
open Go.RowKit

end Go.Proofs.YtppehllccdjfkaaGreatDoor
