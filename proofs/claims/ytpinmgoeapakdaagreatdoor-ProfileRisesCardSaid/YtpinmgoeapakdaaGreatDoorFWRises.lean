/- Lemmas and contracts of functions, joined for the claim: Law10g. -/
import Derived.Test.YtpinmgoeapakdaaGreatDoorGProF
import Derived.Test.YtpinmgoeapakdaaGreatDoorGProH
import Derived.Test.YtpinmgoeapakdaaGreatDoorGProC
import Derived.Test.YtpinmgoeapakdaaGreatDoorGCurveB
import Derived.Test.YtpinmgoeapakdaaGreatDoorGCurveC
import Derived.Test.YtpinmgoeapakdaaGreatDoorGNest
import Derived.Test.YtpinmgoeapakdaaGreatDoorGProI
namespace Go.Proofs.YtpinmgoeapakdaaGreatDoor
open Go.RowKit

theorem slope_okP (A : Option Addr) (n c : Nat) (l : List PT) (hok : OkC l) (w : World) (hl : shP.In w A n l) :
    Calls Tryz.prog 31 #[.slice A n c] w fun e w' => e = .returned (.tuple #[.int .i64 (slC l), .int .i64 0]) ∧ Below w.heap.size w w' := by
  have hf := hok.few
  have hn := hl.1
  have := cSlope_any A n c l w hl (by omega)
  rw [chkC_ok.2 hok, show slopeT l = slC l by unfold slopeT; rw [chkC_ok.2 hok, if_neg (by decide)]] at this
  exact this
theorem clamp_int {z : Int} : clampR (z : Rat) = (((if z < 0 then 0 else if 65535 < z then 65535 else z) : Int) : Rat) := by
  unfold clampR
  have c0 : ((0 : Int) : Rat) = 0 := rfl
  have c1 : ((65535 : Int) : Rat) = 65535 := rfl
  by_cases h0 : z < 0
  · rw [if_pos h0, if_pos (by rw [← c0]; exact cast_lt.2 h0)]; rfl
  · rw [if_neg h0, if_neg (by rw [← c0]; exact fun h => h0 (cast_lt.1 h))]
    by_cases h1 : 65535 < z
    · rw [if_pos h1, if_pos (by rw [← c1]; exact cast_lt.2 h1)]; rfl
    · rw [if_neg h1, if_neg (by rw [← c1]; exact fun h => h1 (cast_lt.1 h))]
theorem made_low (lo hi : Int) (c : List PT) {z : Int} (h : z < 0) : madeR lo hi c (z : Rat) = madeR lo hi c ((0 : Int) : Rat) := by
  unfold madeR
  rw [clamp_int, clamp_int, if_pos h]
  rfl
theorem made_high (lo hi : Int) (c : List PT) {z : Int} (h : 65535 ≤ z) : madeR lo hi c (z : Rat) = madeR lo hi c ((65535 : Int) : Rat) := by
  unfold madeR
  rw [clamp_int, clamp_int, if_neg (by omega)]
  by_cases h2 : 65535 < z
  · rw [if_pos h2]; rfl
  · obtain rfl : z = 65535 := by omega
    rfl
theorem made_straight {lo hi : Int} (h : lo ≤ hi) : madeR lo hi straightC ((0 : Int) : Rat) = lo ∧ madeR lo hi straightC ((65535 : Int) : Rat) = hi := by
  have c0 : ((0 : Int) : Rat) = 0 := rfl
  have c1 : ((65535 : Int) : Rat) = 65535 := rfl
  unfold madeR
  rw [val_straightP (clamp_in _), val_straightP (clamp_in _), clamp_int, clamp_int, if_neg (by decide), if_neg (by decide), if_neg (by decide), if_neg (by decide)]
  constructor
  · rw [c0, Rat.zero_mul, Rat.zero_add, show (halfR).floor = 0 by decide]
    omega
  · rw [c1, show (65535 : Rat) * ratD (hi - lo) = ((hi - lo : Int) : Rat) by rw [Rat.mul_comm]; exact ratD_mul _]
    have := floor_between (x := ((hi - lo : Int) : Rat)) (D := hi - lo) (by rw [← c0]; exact cast_le.2 (by omega)) (Rat.le_refl)
    have h2 : hi - lo ≤ (((hi - lo : Int) : Rat) + halfR).floor := by
      refine floor_low ?_
      have : (0 : Rat) ≤ halfR := by decide
      grind
    omega

theorem made_rises {lo hi : Int} {c : List PT} (hc : OkC c) (h : lo ≤ hi) {a b : Int} (ha : 0 ≤ a) (hab : a ≤ b) (hb : b ≤ 65535) :
    (slC c ≤ 0 ∨ madeR lo hi c (a : Rat) ≤ madeR lo hi c (b : Rat)) ∧ (0 ≤ slC c ∨ madeR lo hi c (b : Rat) ≤ madeR lo hi c (a : Rat)) := by
  have ia : InL (a : Rat) := ⟨cast_le.2 ha, cast_le.2 (show a ≤ 65535 by omega)⟩
  have ib : InL (b : Rat) := ⟨cast_le.2 (show 0 ≤ b by omega), cast_le.2 hb⟩
  have hab' : (a : Rat) ≤ (b : Rat) := cast_le.2 hab
  constructor
  · by_cases hs : slC c ≤ 0
    · exact .inl hs
    · refine .inr (made_le h ?_)
      rw [clamp_id ia, clamp_id ib]
      have ho := slope_order hc ia.2 ib.2 (by omega)
      rcases slC_cases c with ⟨e, -⟩ | ⟨e, -⟩ | e
      · rw [e, Int.one_mul] at ho
        refine Rat.not_lt.1 fun h3 => ?_
        have h4 := ordR_pos.2 h3
        rw [ho] at h4
        exact Rat.not_lt.2 hab' (ordR_pos.1 h4)
      · omega
      · omega
  · by_cases hs : 0 ≤ slC c
    · exact .inl hs
    · refine .inr (made_le h ?_)
      rw [clamp_id ia, clamp_id ib]
      have ho := slope_order hc ia.2 ib.2 (by omega)
      rcases slC_cases c with ⟨e, -⟩ | ⟨e, -⟩ | e
      · omega
      · rw [e] at ho
        refine Rat.not_lt.1 fun h3 => ?_
        have h4 := ordR_neg.2 h3
        rw [ho] at h4
        exact Rat.not_lt.2 hab' (ordR_pos.1 (by omega))
      · omega
theorem fbox_two (at_ bits co fi cu ho lo hi : Int) (sn : Bool) (A : Option Addr) (n c : Nat) (p q : Value) (t : TypeId) (w W : World) (hW : W = (w.alloc (.cells #[.int .i64 at_, .int .i64 bits, .int .i64 co, .int .i64 fi, .int .i64 cu, .int .i64 ho, .int .i64 lo, .int .i64 hi, .bool sn, .slice A n c] 24)).alloc (.cells #[p, q] t)) :
    Below w.heap.size w W ∧ ∀ w', Below W.heap.size W w' → w'.cell? ⟨w.heap.size, 0, none⟩ = some (.int .i64 at_) ∧ w'.cell? ⟨w.heap.size, 1, none⟩ = some (.int .i64 bits) ∧ w'.cell? ⟨w.heap.size, 2, none⟩ = some (.int .i64 co) ∧ w'.cell? ⟨w.heap.size, 3, none⟩ = some (.int .i64 fi) ∧ w'.cell? ⟨w.heap.size, 4, none⟩ = some (.int .i64 cu) ∧ w'.cell? ⟨w.heap.size, 5, none⟩ = some (.int .i64 ho) ∧ w'.cell? ⟨w.heap.size, 6, none⟩ = some (.int .i64 lo) ∧ w'.cell? ⟨w.heap.size, 7, none⟩ = some (.int .i64 hi) ∧ w'.cell? ⟨w.heap.size, 8, none⟩ = some (.bool sn) ∧ w'.cell? ⟨w.heap.size, 9, none⟩ = some (.slice A n c) ∧ w'.cell? ⟨w.heap.size + 1, 0, none⟩ = some p ∧ w'.cell? ⟨w.heap.size + 1, 1, none⟩ = some q := by
  obtain ⟨W1, hW1⟩ : ∃ W1, W1 = w.alloc (.cells #[.int .i64 at_, .int .i64 bits, .int .i64 co, .int .i64 fi, .int .i64 cu, .int .i64 ho, .int .i64 lo, .int .i64 hi, .bool sn, .slice A n c] 24) := ⟨_, rfl⟩
  rw [← hW1] at hW
  obtain ⟨b1, k1⟩ := fbox at_ bits co fi cu ho lo hi sn A n c w W1 hW1
  have hs1 : W1.heap.size = w.heap.size + 1 := by rw [hW1]; simp
  have b2 : Below W1.heap.size W1 W := by rw [hW]; exact (Below.refl _ _).alloc (Nat.le_refl _) _
  have hsW : W.heap.size = W1.heap.size + 1 := by rw [hW]; simp
  refine ⟨b1.trans (b2.mono b1.size), fun w' h => ?_⟩
  obtain ⟨e0, e1, e2, e3, e4, e5, e6, e7, e8, e9⟩ := k1 w' (b2.trans (h.mono b2.size))
  have key : ∀ j x, (#[p, q] : Array Value)[j]? = some x → w'.cell? ⟨w.heap.size + 1, j, none⟩ = some x := fun j x hx => by
    rw [← hs1]
    refine (h.cell (p := ⟨W1.heap.size, j, none⟩) (by rw [hsW]; exact Nat.lt_succ_self _)).trans ?_
    rw [hW, World.cell?_alloc_new]; exact hx
  exact ⟨e0, e1, e2, e3, e4, e5, e6, e7, e8, e9, key 0 _ rfl, key 1 _ rfl⟩
set_option maxRecDepth 100000 in
set_option maxHeartbeats 16000000 in
theorem prises_walk (w : World) (f : FC) (wl : List Slt) (A' : Option Addr) (n' c' : Nat) (H : List Hd) (L : List (List PT)) (u v : Int) (hw : FW w f wl) (hl : InN w A' n' H L) (hm : ∀ h ∈ H, h.n ≤ 9223372036854775807) (hn : n' ≤ 9223372036854775807) (hu : 0 ≤ u ∧ u ≤ 65535) (hv : 0 ≤ v ∧ v ≤ 65535) (ht : Tab w) (hr : Rng w) :
    Calls Tryz.prog 8 #[f.val, .slice A' n' c', .agg #[.int .u16 u, .int .u16 v]] w fun e w' => e = .returned (.bool true) ∧ Below w.heap.size w w' := by
  have HAw := Lib.hid (fun w ht hr => pawake_any w ht hr)
  have HRt0 := Lib.hid (fun w hw hl => lright_any f wl A' n' c' H L w hw hl hm hn)
  by_cases hright : rightF (f.fea wl) L = true
  case neg =>
    rw [show rightF (f.fea wl) L = false by simpa using hright] at HRt0
    obtain ⟨at_, bits, co, fi, cu, ho, lo, hi, sn, A, n, c⟩ := f
    have HRt := Lib.hid (show ∀ w', FW w' ⟨at_, bits, co, fi, cu, ho, lo, hi, sn, A, n, c⟩ wl → InN w' A' n' H L → Calls Tryz.prog 21 #[.agg #[.int .i64 at_, .int .i64 bits, .int .i64 co, .int .i64 fi, .int .i64 cu, .int .i64 ho, .int .i64 lo, .int .i64 hi, .bool sn, .slice A n c], .slice A' n' c'] w' fun e w'' => e = .returned (.bool false) ∧ Below w'.heap.size w' w'' from HRt0.out)
    show Calls Tryz.prog 8 #[.agg #[.int .i64 at_, .int .i64 bits, .int .i64 co, .int .i64 fi, .int .i64 cu, .int .i64 ho, .int .i64 lo, .int .i64 hi, .bool sn, .slice A n c], .slice A' n' c', .agg #[.int .u16 u, .int .u16 v]] w fun e w' => e = .returned (.bool true) ∧ Below w.heap.size w w'
    obtain ⟨W, hW⟩ : ∃ W, W = (w.alloc (.cells #[.int .i64 at_, .int .i64 bits, .int .i64 co, .int .i64 fi, .int .i64 cu, .int .i64 ho, .int .i64 lo, .int .i64 hi, .bool sn, .slice A n c] 24)).alloc (.cells #[.int .u16 u, .int .u16 v] 66) := ⟨_, rfl⟩
    obtain ⟨hB0, hK⟩ := fbox_two at_ bits co fi cu ho lo hi sn A n c (.int .u16 u) (.int .u16 v) 66 w W hW
    have HK := Lib.hid hK
    have HW := Lib.hid hW
    have HB0 := Lib.hid hB0
    have hB := Below.refl W.heap.size W
    obtain ⟨c0, c1, c2, c3, c4, c5, c6, c7, c8, c9, cp, cq⟩ := hK W hB
    clear hW hB0 hK
    have HL := Lib.hid (hw.below HB0.out)
    have HL2 := Lib.hid (hl.below HB0.out)
    have HT := Lib.hid (ht.below HB0.out)
    have HRg := Lib.hid (hr.below HB0.out)
    clear hw hl ht hr hm HRt0 hright
    go_enter Tryz.func8, Tryz.ntmps8
    go_wp2_with fail
    rw [← HW.out]
    refine (HRt.out _ (HL.out.below hB) (HL2.out.below hB)).mono ?_
    rintro e wk ⟨rfl, hb⟩
    replace hB := hB.trans (hb.mono hB.size)
    clear hb
    obtain ⟨c0, c1, c2, c3, c4, c5, c6, c7, c8, c9⟩ := HK.out _ hB
    go_wp2_with fail
    refine (HAw.out _ (HT.out.below hB) (HRg.out.below hB)).mono ?_
    rintro e wk ⟨rfl, hb⟩
    replace hB := hB.trans (hb.mono hB.size)
    clear hb
    obtain ⟨c0, c1, c2, c3, c4, c5, c6, c7, c8, c9⟩ := HK.out _ hB
    go_wp2_with fail
    go_ret
    exact ⟨rfl, HB0.out.trans (hB.mono HB0.out.size)⟩
  case pos =>
  rw [hright] at HRt0
  have ha : aloneE (f.fea wl) L = 0 := by
    unfold rightF at hright
    simp at hright
    exact hright.2
  obtain ⟨hA, -, hc0, hc1, -, hl0, hl1, hl2, -⟩ := alone_ok ha
  have hC := points_ok hA hc0 hc1
  obtain ⟨Mz, hMz⟩ : ∃ Mz : Int → Int, Mz = fun z : Int => madeR (f.fea wl).lo (f.fea wl).hi (pointsC (f.fea wl).cu L) (z : Rat) := ⟨_, rfl⟩
  obtain ⟨G, hG⟩ : ∃ G : Int → ByteArray, G = fun z : Int => sR ((z : Int) : Rat) := ⟨_, rfl⟩
  have hRw : ∀ z : Int, (-131072 ≤ z ∧ z ≤ 131072) → ∀ w, FW w f wl → InN w A' n' H L → Tab w → Rng w → Calls Tryz.prog 15 #[f.val, .slice A' n' c', .string (G z)] w fun e w' => e = .returned (.tuple #[.int .i64 (Mz z), .int .i64 0]) ∧ Below w.heap.size w w' := fun z hz w hw hl ht hr => by
    have hzk : SzR 6 ((z : Int) : Rat) := SzR.int (by omega) (by decide)
    have hf := raw_fit ha hzk (by decide)
    have := praw_any f wl A' n' c' H L (sR (z : Rat)) w hw hl hm hn (by have := hzk.len; omega) ht hr
    rw [hf.1, hf.2] at this
    rw [hG, hMz]
    exact this
  have HWh := Lib.hid (fun (z : Int) (hz : -131072 ≤ z ∧ z ≤ 131072) w => (show Calls Tryz.prog 30 #[.int .i64 z] w fun e w' => e = .returned (.string (G z)) ∧ Below w.heap.size w w' by rw [hG]; exact swhole_fit (x := z) (by omega) (by omega) w))
  have hG0 : (⟨#[48]⟩ : ByteArray) = G 0 := by rw [hG]; exact zero_txt
  have hlow : ∀ z, z < 0 → Mz z = Mz 0 := fun z hz => by rw [hMz]; exact made_low _ _ _ hz
  have hhigh : ∀ z, 65535 ≤ z → Mz z = Mz 65535 := fun z hz => by rw [hMz]; exact made_high _ _ _ hz
  obtain ⟨a, b, hab, ha0, hb0, hmn, hmx⟩ : ∃ a b : Int, a ≤ b ∧ 0 ≤ a ∧ b ≤ 65535 ∧ min u v = a ∧ max u v = b := ⟨_, _, by omega, by omega, by omega, rfl, rfl⟩
  have hris := made_rises hC hl1 ha0 hab hb0
  have hstr : (f.fea wl).cu = 0 → Mz a ≤ Mz b ∧ Mz 0 = (f.fea wl).lo ∧ Mz 65535 = (f.fea wl).hi := fun h => by
    rw [hMz]
    have hp : pointsC (f.fea wl).cu L = straightC := by unfold pointsC; exact if_pos h
    rw [hp] at hris ⊢
    have hs : slC straightC = 1 := by decide
    rw [hs] at hris
    exact ⟨hris.1.resolve_left (by decide), (made_straight hl1).1, (made_straight hl1).2⟩
  have hris2 : (slC (pointsC (f.fea wl).cu L) ≤ 0 ∨ Mz a ≤ Mz b) ∧ (0 ≤ slC (pointsC (f.fea wl).cu L) ∨ Mz b ≤ Mz a) := by rw [hMz]; exact hris
  have hle := hl.1.1
  have hlen := hl.2.1
  obtain ⟨at_, bits, co, fi, cu, ho, lo, hi, sn, A, n, c⟩ := f
  have HRt := Lib.hid (show ∀ w', FW w' ⟨at_, bits, co, fi, cu, ho, lo, hi, sn, A, n, c⟩ wl → InN w' A' n' H L → Calls Tryz.prog 21 #[.agg #[.int .i64 at_, .int .i64 bits, .int .i64 co, .int .i64 fi, .int .i64 cu, .int .i64 ho, .int .i64 lo, .int .i64 hi, .bool sn, .slice A n c], .slice A' n' c'] w' fun e w'' => e = .returned (.bool true) ∧ Below w'.heap.size w' w'' from HRt0.out)
  have HRw := Lib.hid (show ∀ z : Int, (-131072 ≤ z ∧ z ≤ 131072) → ∀ w', FW w' ⟨at_, bits, co, fi, cu, ho, lo, hi, sn, A, n, c⟩ wl → InN w' A' n' H L → Tab w' → Rng w' → Calls Tryz.prog 15 #[.agg #[.int .i64 at_, .int .i64 bits, .int .i64 co, .int .i64 fi, .int .i64 cu, .int .i64 ho, .int .i64 lo, .int .i64 hi, .bool sn, .slice A n c], .slice A' n' c', .string (G z)] w' fun e w'' => e = .returned (.tuple #[.int .i64 (Mz z), .int .i64 0]) ∧ Below w'.heap.size w' w'' from hRw)
  show Calls Tryz.prog 8 #[.agg #[.int .i64 at_, .int .i64 bits, .int .i64 co, .int .i64 fi, .int .i64 cu, .int .i64 ho, .int .i64 lo, .int .i64 hi, .bool sn, .slice A n c], .slice A' n' c', .agg #[.int .u16 u, .int .u16 v]] w fun e w' => e = .returned (.bool true) ∧ Below w.heap.size w w'
  replace hc0 : 0 ≤ cu := hc0
  replace hc1 : cu ≤ L.length := hc1
  replace hC : OkC (pointsC cu L) := hC
  replace hstr : cu = 0 → Mz a ≤ Mz b ∧ Mz 0 = lo ∧ Mz 65535 = hi := hstr
  replace hris2 : (slC (pointsC cu L) ≤ 0 ∨ Mz a ≤ Mz b) ∧ (0 ≤ slC (pointsC cu L) ∨ Mz b ≤ Mz a) := hris2
  have ra : -131072 ≤ a ∧ a ≤ 131072 := by omega
  have rb : -131072 ≤ b ∧ b ≤ 131072 := by omega
  have rc : -131072 ≤ -1 - a ∧ -1 - a ≤ 131072 := by omega
  have rd : -131072 ≤ 65535 + b ∧ 65535 + b ≤ 131072 := by omega
  have re : -131072 ≤ (65535 : Int) ∧ (65535 : Int) ≤ 131072 := by omega
  have rz : -131072 ≤ (0 : Int) ∧ (0 : Int) ≤ 131072 := by omega
  have w1 : IntKind.i64.wrap (-1 - a) = -1 - a := IntWalk.i64_in _ (by omega)
  have w2 : IntKind.i64.wrap (65535 + b) = 65535 + b := IntWalk.i64_in _ (by omega)
  have w3 : IntKind.i64.wrap a = a := IntWalk.i64_in _ (by omega)
  have w4 : IntKind.i64.wrap b = b := IntWalk.i64_in _ (by omega)
  have el := hlow (-1 - a) (by omega)
  have eh := hhigh (65535 + b) (by omega)
  obtain ⟨W, hW⟩ : ∃ W, W = (w.alloc (.cells #[.int .i64 at_, .int .i64 bits, .int .i64 co, .int .i64 fi, .int .i64 cu, .int .i64 ho, .int .i64 lo, .int .i64 hi, .bool sn, .slice A n c] 24)).alloc (.cells #[.int .u16 u, .int .u16 v] 66) := ⟨_, rfl⟩
  obtain ⟨hB0, hK⟩ := fbox_two at_ bits co fi cu ho lo hi sn A n c (.int .u16 u) (.int .u16 v) 66 w W hW
  have HK := Lib.hid hK
  have HW := Lib.hid hW
  have HB0 := Lib.hid hB0
  have hB := Below.refl W.heap.size W
  obtain ⟨c0, c1, c2, c3, c4, c5, c6, c7, c8, c9, cp, cq⟩ := hK W hB
  clear hW hB0 hK
  have HL := Lib.hid (hw.below HB0.out)
  have HL2 := Lib.hid (hl.below HB0.out)
  have HT := Lib.hid (ht.below HB0.out)
  have HRg := Lib.hid (hr.below HB0.out)
  have HRw0 := Lib.hid (HRw.out 0 rz)
  rw [← hG0] at HRw0
  have HStr := Lib.hid hstr
  have HRis := Lib.hid hris2
  have HCu := Lib.hid (And.intro hc0 hc1)
  have HC := Lib.hid hC
  have HLn := Lib.hid (And.intro hle hlen)
  have HAB := Lib.hid (And.intro ha0 (And.intro hab hb0))
  clear hw hl ht hr hm HRt0 hright ha hA hc0 hc1 hl0 hl1 hl2 hC hMz hG hRw hlow hhigh hris hstr hris2 hle hlen hG0 ha0 hab hb0
  go_enter Tryz.func8, Tryz.ntmps8
  go_wp2_with fail
  rw [← HW.out]
  refine (HRt.out _ (HL.out.below hB) (HL2.out.below hB)).mono ?_
  rintro e wk ⟨rfl, hb⟩
  replace hB := hB.trans (hb.mono hB.size)
  clear hb
  obtain ⟨c0, c1, c2, c3, c4, c5, c6, c7, c8, c9⟩ := HK.out _ hB
  obtain ⟨c9, cp, cq⟩ := c9
  go_wp2_with fail
  go_quiet (fail)
  replace hB := below_drewN hB nq
  obtain ⟨c0, c1, c2, c3, c4, c5, c6, c7, c8, c9, cp, cq⟩ := HK.out _ hB
  go_wp2_with fail
  replace hB := below_drewN hB 1
  obtain ⟨c0, c1, c2, c3, c4, c5, c6, c7, c8, c9, cp, cq⟩ := HK.out _ hB
  go_region_held3 (fun w' => w'.cell? ⟨w.heap.size, 0, none⟩ = some (.int .i64 at_) ∧ w'.cell? ⟨w.heap.size, 1, none⟩ = some (.int .i64 bits) ∧ w'.cell? ⟨w.heap.size, 2, none⟩ = some (.int .i64 co) ∧ w'.cell? ⟨w.heap.size, 3, none⟩ = some (.int .i64 fi) ∧ w'.cell? ⟨w.heap.size, 4, none⟩ = some (.int .i64 cu) ∧ w'.cell? ⟨w.heap.size, 5, none⟩ = some (.int .i64 ho) ∧ w'.cell? ⟨w.heap.size, 6, none⟩ = some (.int .i64 lo) ∧ w'.cell? ⟨w.heap.size, 7, none⟩ = some (.int .i64 hi) ∧ w'.cell? ⟨w.heap.size, 8, none⟩ = some (.bool sn) ∧ w'.cell? ⟨w.heap.size, 9, none⟩ = some (.slice A n c)) (exact ⟨c0, c1, c2, c3, c4, c5, c6, c7, c8, c9⟩) (first | (go_at_call 30; refine (HWh.out _ (by assumption) _).mono ?_; rintro e wk ⟨rfl, hb⟩; replace hB := hB.trans (hb.mono hB.size); clear hb; obtain ⟨c0, c1, c2, c3, c4, c5, c6, c7, c8, c9, cp, cq⟩ := HK.out _ hB) | (go_at_call 15; refine (HRw.out _ (by assumption) _ (HL.out.below hB) (HL2.out.below hB) (HT.out.below hB) (HRg.out.below hB)).mono ?_; rintro e wk ⟨rfl, hb⟩; replace hB := hB.trans (hb.mono hB.size); clear hb; obtain ⟨c0, c1, c2, c3, c4, c5, c6, c7, c8, c9, cp, cq⟩ := HK.out _ hB))
  go_wp2_with fail
  replace hB := below_drewN hB 1
  obtain ⟨c0, c1, c2, c3, c4, c5, c6, c7, c8, c9, cp, cq⟩ := HK.out _ hB
  go_region_held3 (fun w' => w'.cell? ⟨w.heap.size, 0, none⟩ = some (.int .i64 at_) ∧ w'.cell? ⟨w.heap.size, 1, none⟩ = some (.int .i64 bits) ∧ w'.cell? ⟨w.heap.size, 2, none⟩ = some (.int .i64 co) ∧ w'.cell? ⟨w.heap.size, 3, none⟩ = some (.int .i64 fi) ∧ w'.cell? ⟨w.heap.size, 4, none⟩ = some (.int .i64 cu) ∧ w'.cell? ⟨w.heap.size, 5, none⟩ = some (.int .i64 ho) ∧ w'.cell? ⟨w.heap.size, 6, none⟩ = some (.int .i64 lo) ∧ w'.cell? ⟨w.heap.size, 7, none⟩ = some (.int .i64 hi) ∧ w'.cell? ⟨w.heap.size, 8, none⟩ = some (.bool sn) ∧ w'.cell? ⟨w.heap.size, 9, none⟩ = some (.slice A n c)) (exact ⟨c0, c1, c2, c3, c4, c5, c6, c7, c8, c9⟩) (first | (go_at_call 30; refine (HWh.out _ (by assumption) _).mono ?_; rintro e wk ⟨rfl, hb⟩; replace hB := hB.trans (hb.mono hB.size); clear hb; obtain ⟨c0, c1, c2, c3, c4, c5, c6, c7, c8, c9, cp, cq⟩ := HK.out _ hB) | (go_at_call 15; refine (HRw.out _ (by assumption) _ (HL.out.below hB) (HL2.out.below hB) (HT.out.below hB) (HRg.out.below hB)).mono ?_; rintro e wk ⟨rfl, hb⟩; replace hB := hB.trans (hb.mono hB.size); clear hb; obtain ⟨c0, c1, c2, c3, c4, c5, c6, c7, c8, c9, cp, cq⟩ := HK.out _ hB))
  go_wp2_with fail
  replace hB := below_drewN hB 1
  obtain ⟨c0, c1, c2, c3, c4, c5, c6, c7, c8, c9, cp, cq⟩ := HK.out _ hB
  go_region_held3 (fun w' => w'.cell? ⟨w.heap.size, 0, none⟩ = some (.int .i64 at_) ∧ w'.cell? ⟨w.heap.size, 1, none⟩ = some (.int .i64 bits) ∧ w'.cell? ⟨w.heap.size, 2, none⟩ = some (.int .i64 co) ∧ w'.cell? ⟨w.heap.size, 3, none⟩ = some (.int .i64 fi) ∧ w'.cell? ⟨w.heap.size, 4, none⟩ = some (.int .i64 cu) ∧ w'.cell? ⟨w.heap.size, 5, none⟩ = some (.int .i64 ho) ∧ w'.cell? ⟨w.heap.size, 6, none⟩ = some (.int .i64 lo) ∧ w'.cell? ⟨w.heap.size, 7, none⟩ = some (.int .i64 hi) ∧ w'.cell? ⟨w.heap.size, 8, none⟩ = some (.bool sn) ∧ w'.cell? ⟨w.heap.size, 9, none⟩ = some (.slice A n c)) (exact ⟨c0, c1, c2, c3, c4, c5, c6, c7, c8, c9⟩) (first | (go_at_call 30; refine (HWh.out _ (by assumption) _).mono ?_; rintro e wk ⟨rfl, hb⟩; replace hB := hB.trans (hb.mono hB.size); clear hb; obtain ⟨c0, c1, c2, c3, c4, c5, c6, c7, c8, c9, cp, cq⟩ := HK.out _ hB) | (go_at_call 15; refine (HRw.out _ (by assumption) _ (HL.out.below hB) (HL2.out.below hB) (HT.out.below hB) (HRg.out.below hB)).mono ?_; rintro e wk ⟨rfl, hb⟩; replace hB := hB.trans (hb.mono hB.size); clear hb; obtain ⟨c0, c1, c2, c3, c4, c5, c6, c7, c8, c9, cp, cq⟩ := HK.out _ hB))
  go_wp2_with fail
  refine (HRw0.out _ (HL.out.below hB) (HL2.out.below hB) (HT.out.below hB) (HRg.out.below hB)).mono ?_
  rintro e wk ⟨rfl, hb⟩
  replace hB := hB.trans (hb.mono hB.size)
  clear hb
  obtain ⟨c0, c1, c2, c3, c4, c5, c6, c7, c8, c9, cp, cq⟩ := HK.out _ hB
  go_wp2_with fail
  replace hB := below_drewN hB 1
  obtain ⟨c0, c1, c2, c3, c4, c5, c6, c7, c8, c9, cp, cq⟩ := HK.out _ hB
  go_region_held3 (fun w' => w'.cell? ⟨w.heap.size, 0, none⟩ = some (.int .i64 at_) ∧ w'.cell? ⟨w.heap.size, 1, none⟩ = some (.int .i64 bits) ∧ w'.cell? ⟨w.heap.size, 2, none⟩ = some (.int .i64 co) ∧ w'.cell? ⟨w.heap.size, 3, none⟩ = some (.int .i64 fi) ∧ w'.cell? ⟨w.heap.size, 4, none⟩ = some (.int .i64 cu) ∧ w'.cell? ⟨w.heap.size, 5, none⟩ = some (.int .i64 ho) ∧ w'.cell? ⟨w.heap.size, 6, none⟩ = some (.int .i64 lo) ∧ w'.cell? ⟨w.heap.size, 7, none⟩ = some (.int .i64 hi) ∧ w'.cell? ⟨w.heap.size, 8, none⟩ = some (.bool sn) ∧ w'.cell? ⟨w.heap.size, 9, none⟩ = some (.slice A n c)) (exact ⟨c0, c1, c2, c3, c4, c5, c6, c7, c8, c9⟩) (first | (go_at_call 30; refine (HWh.out _ (by assumption) _).mono ?_; rintro e wk ⟨rfl, hb⟩; replace hB := hB.trans (hb.mono hB.size); clear hb; obtain ⟨c0, c1, c2, c3, c4, c5, c6, c7, c8, c9, cp, cq⟩ := HK.out _ hB) | (go_at_call 15; refine (HRw.out _ (by assumption) _ (HL.out.below hB) (HL2.out.below hB) (HT.out.below hB) (HRg.out.below hB)).mono ?_; rintro e wk ⟨rfl, hb⟩; replace hB := hB.trans (hb.mono hB.size); clear hb; obtain ⟨c0, c1, c2, c3, c4, c5, c6, c7, c8, c9, cp, cq⟩ := HK.out _ hB))
  go_wp2_with fail
  replace hB := below_drewN hB 1
  obtain ⟨c0, c1, c2, c3, c4, c5, c6, c7, c8, c9, cp, cq⟩ := HK.out _ hB
  go_region_held3 (fun w' => w'.cell? ⟨w.heap.size, 0, none⟩ = some (.int .i64 at_) ∧ w'.cell? ⟨w.heap.size, 1, none⟩ = some (.int .i64 bits) ∧ w'.cell? ⟨w.heap.size, 2, none⟩ = some (.int .i64 co) ∧ w'.cell? ⟨w.heap.size, 3, none⟩ = some (.int .i64 fi) ∧ w'.cell? ⟨w.heap.size, 4, none⟩ = some (.int .i64 cu) ∧ w'.cell? ⟨w.heap.size, 5, none⟩ = some (.int .i64 ho) ∧ w'.cell? ⟨w.heap.size, 6, none⟩ = some (.int .i64 lo) ∧ w'.cell? ⟨w.heap.size, 7, none⟩ = some (.int .i64 hi) ∧ w'.cell? ⟨w.heap.size, 8, none⟩ = some (.bool sn) ∧ w'.cell? ⟨w.heap.size, 9, none⟩ = some (.slice A n c)) (exact ⟨c0, c1, c2, c3, c4, c5, c6, c7, c8, c9⟩) (first | (go_at_call 30; refine (HWh.out _ (by assumption) _).mono ?_; rintro e wk ⟨rfl, hb⟩; replace hB := hB.trans (hb.mono hB.size); clear hb; obtain ⟨c0, c1, c2, c3, c4, c5, c6, c7, c8, c9, cp, cq⟩ := HK.out _ hB) | (go_at_call 15; refine (HRw.out _ (by assumption) _ (HL.out.below hB) (HL2.out.below hB) (HT.out.below hB) (HRg.out.below hB)).mono ?_; rintro e wk ⟨rfl, hb⟩; replace hB := hB.trans (hb.mono hB.size); clear hb; obtain ⟨c0, c1, c2, c3, c4, c5, c6, c7, c8, c9, cp, cq⟩ := HK.out _ hB))
  by_cases hcu : cu = 0
  · subst hcu
    obtain ⟨h1, h2, h3⟩ := HStr.out rfl
    have d1 : decide (Mz a ≤ Mz b) = true := decide_eq_true h1
    go_wp2_with fail
    refine (HAw.out _ (HT.out.below hB) (HRg.out.below hB)).mono ?_
    rintro e wk ⟨rfl, hb⟩
    replace hB := hB.trans (hb.mono hB.size)
    clear hb
    go_wp2_with fail
    go_ret
    exact ⟨rfl, HB0.out.trans (hB.mono HB0.out.size)⟩
  · have g1 : (cu == 0) = false := by simpa using hcu
    obtain ⟨k0, k1⟩ := HCu.out
    obtain ⟨hle, hlen⟩ := HLn.out
    obtain ⟨j, rfl⟩ : ∃ j : Nat, cu = ((j : Nat) : Int) + 1 := ⟨(cu - 1).toNat, by omega⟩
    have hj : j < L.length := by omega
    have hjH : j < H.length := by omega
    have hin := HL2.out.below hB
    obtain ⟨rfl, _⟩ := id hin.1
    obtain ⟨b', o, rfl, hbl, hcell⟩ := hd_at hin.1 (by omega)
    have p0 := hcell j hjH
    have hq := hin.2.2 j hjH hj
    have hp : pointsC ((j : Int) + 1) L = L[j] := by
      unfold pointsC
      rw [if_neg (by omega), show ((j : Int) + 1 - 1).toNat = j by omega, getD_of hj]
    have hC := HC.out
    have hR := HRis.out
    rw [hp] at hC hR
    have HSl := Lib.hid (fun w (h3 : shP.In w H[j].A H[j].n L[j]) => slope_okP H[j].A H[j].n H[j].c L[j] hC w h3)
    have HQ := Lib.hid hq
    have e1 : decide ((j : Int) + 1 < 0) = false := decide_eq_false (by omega)
    have e2 : decide ((H.length : Int) < (j : Int) + 1) = false := decide_eq_false (by omega)
    have i0 : (0 : Int) ≤ (j : Int) := by omega
    have i1 : (j : Int) < (H.length : Int) := by omega
    have w5 : IntKind.i64.wrap ((j : Int) + 1 - 1) = (j : Int) := by rw [Int.add_sub_cancel]; exact IntWalk.i64_in _ (by omega)
    have w6 : IntKind.i64.wrap (j : Int) = (j : Int) := IntWalk.i64_in _ (by omega)
    generalize H[j].A = a2 at *
    generalize H[j].n = n2 at *
    generalize H[j].c = d2 at *
    generalize slC L[j] = sl at *
    clear hin hq hcell hC hp k0 k1 hle HCu HStr HRis HRw HRw0 HWh HC
    have key : (decide (sl ≤ 0) = true ∨ (decide (sl ≤ 0) = false ∧ decide (Mz a ≤ Mz b) = true)) ∧ (decide (0 ≤ sl) = true ∨ (decide (0 ≤ sl) = false ∧ decide (Mz b ≤ Mz a) = true)) := by
      refine ⟨?_, ?_⟩
      · by_cases h : sl ≤ 0
        · exact .inl (decide_eq_true h)
        · exact .inr ⟨decide_eq_false h, decide_eq_true (hR.1.resolve_left h)⟩
      · by_cases h : 0 ≤ sl
        · exact .inl (decide_eq_true h)
        · exact .inr ⟨decide_eq_false h, decide_eq_true (hR.2.resolve_left h)⟩
    obtain ⟨k1, k2⟩ := key
    clear hR
    rcases k1 with s1 | ⟨s1, s2⟩ <;> rcases k2 with t1 | ⟨t1, t2⟩
    all_goals
      go_wp2_with fail
      refine (HSl.out _ HQ.out).mono ?_
      rintro e wk ⟨rfl, hb⟩
      replace hB := hB.trans (hb.mono hB.size)
      clear hb
      go_wp2_with fail
      refine (HAw.out _ (HT.out.below hB) (HRg.out.below hB)).mono ?_
      rintro e wk ⟨rfl, hb⟩
      replace hB := hB.trans (hb.mono hB.size)
      clear hb
      go_wp2_with fail
      go_ret
      exact ⟨rfl, HB0.out.trans (hB.mono HB0.out.size)⟩
theorem profile_rises (w : World) (g : FC) (hg : g.good w) (A : Option Addr) (n c : Nat) (H : List Hd) (hl : shH.In w A n H) (hgs : ∀ g ∈ H, (∃ l, shP.In w g.A g.n l) ∧ g.n ≤ maxLen) (hn : n ≤ maxLen) (q : Int × Int) (hq : (0 ≤ q.1 ∧ q.1 ≤ 65535) ∧ 0 ≤ q.2 ∧ q.2 ≤ 65535) (hL : Laid w) :
    Calls Tryz.prog 8 #[.agg (shF.cs g).toArray, .slice A n c, .agg #[.int .u16 q.1, .int .u16 q.2]] w fun e w' => e = .returned (.bool true) ∧ Below w.heap.size w w' := by
  obtain ⟨⟨wl, hw⟩, _⟩ := hg
  obtain ⟨L, h⟩ := curves_of hl hgs
  exact prises_walk w g wl A n c H L q.1 q.2 hw h (fun g hh => by have := (hgs g hh).2; unfold maxLen at this; omega) (by unfold maxLen at hn; omega) hq.1 hq.2 hL.1 hL.2
end Go.Proofs.YtpinmgoeapakdaaGreatDoor
