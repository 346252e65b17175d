/- Lemmas and contracts of functions, joined for the claim: UAPlain, URef13d, UApply1, UApply2, URef13k, UOpen2. -/
import Derived.Test.YtppehllccdjfkaaGreatDoorGUniD
import Derived.Test.YtppehllccdjfkaaGreatDoorGUniC
import Derived.Test.YtppehllccdjfkaaGreatDoorGUniE
import Derived.Test.YtppehllccdjfkaaGreatDoorGOpen
import Derived.Test.YtppehllccdjfkaaGreatDoorGUniA
import Derived.StillTailTactics
import Derived.Deep.RegionHeld3
namespace Go.Proofs.YtppehllccdjfkaaGreatDoor
open Go.RowKit

def Fm.put (f : Fm) (c : Cg) : Fm := if c.un = f.un then ⟨f.un, ⟨(f.sl.data.toList.set (c.ad - 1).toNat (u8v c.by_)).toArray⟩⟩ else f
theorem put_un (f : Fm) (c : Cg) : (f.put c).un = f.un := by
  unfold Fm.put
  by_cases h : c.un = f.un
  · rw [if_pos h]
  · rw [if_neg h]
theorem put_size (f : Fm) (c : Cg) : (f.put c).sl.size = f.sl.size := by
  unfold Fm.put
  by_cases h : c.un = f.un
  · rw [if_pos h]
    show ((f.sl.data.toList.set (c.ad - 1).toNat (u8v c.by_)).toArray).size = f.sl.size
    rw [List.size_toArray, List.length_set, Array.length_toList]
    rfl
  · rw [if_neg h]

def apL (a : List Fm) (L : List Cg) : List Fm := L.foldl (fun a c => a.map (·.put c)) a
theorem apL_push (a : List Fm) (L : List Cg) (c : Cg) : apL a (L ++ [c]) = (apL a L).map (·.put c) := by unfold apL; rw [List.foldl_append]; rfl
theorem apL_map (a : List Fm) (L : List Cg) : apL a L = a.map fun f => L.foldl Fm.put f := by
  unfold apL
  induction L generalizing a with
  | nil => simp
  | cons c L ih => rw [List.foldl_cons, ih, List.map_map]; rfl
theorem apL_len (a : List Fm) (L : List Cg) : (apL a L).length = a.length := by rw [apL_map, List.length_map]
theorem fold_un (L : List Cg) : ∀ f : Fm, (L.foldl Fm.put f).un = f.un := by
  induction L with
  | nil => intro f; rfl
  | cons c L ih => intro f; rw [List.foldl_cons, ih, put_un]
theorem fold_size (L : List Cg) : ∀ f : Fm, (L.foldl Fm.put f).sl.size = f.sl.size := by
  induction L with
  | nil => intro f; rfl
  | cons c L ih => intro f; rw [List.foldl_cons, ih, put_size]
theorem idx_map {α β : Type} (g : α → β) (p : β → Bool) : ∀ l : List α, idxOf p (l.map g) = idxOf (fun x => p (g x)) l
  | [] => rfl
  | x :: l => by rw [List.map_cons, idxOf, idxOf, idx_map g p l]
theorem idxOf_hit {α : Type} {p : α → Bool} : ∀ {l : List α} {k : Nat} (hk : k < l.length), idxOf p l = k → p l[k] = true
  | x :: l, 0, _, h => by
    rw [idxOf] at h
    cases hx : p x with
    | true => exact hx
    | false =>
      rw [hx] at h
      simp only [Bool.false_eq_true, if_false] at h
      by_cases h2 : idxOf p l < 0
      · rw [if_pos h2] at h; omega
      · rw [if_neg h2] at h; omega
  | x :: l, k + 1, hk, h => by
    rw [idxOf] at h
    cases hx : p x with
    | true => rw [hx] at h; simp only [if_true] at h; omega
    | false =>
      rw [hx] at h
      simp only [Bool.false_eq_true, if_false] at h
      by_cases h2 : idxOf p l < 0
      · rw [if_pos h2] at h; omega
      · rw [if_neg h2] at h
        exact idxOf_hit (l := l) (k := k) (by simpa using hk) (by omega)
theorem plI_hit {l : List Fm} {u : Int} {k : Nat} (hk : k < l.length) (h : plI l u = k) : l[k].un = u := of_decide_eq_true (idxOf_hit (p := fun f : Fm => decide (f.un = u)) hk h)
theorem plI_ap (a : List Fm) (L : List Cg) (u : Int) : plI (apL a L) u = plI a u := by
  rw [apL_map]
  unfold plI
  rw [idx_map]
  simp only [fold_un]

def RgL (l : List Fm) : Prop := l.Pairwise (fun f g => f.un < g.un) ∧ ∀ x ∈ l, 1 ≤ x.un ∧ x.un ≤ 8 ∧ x.sl.size = 512
theorem rgL_of {l : List Fm} (h : rightE l = 0) : RgL l := by
  refine ⟨?_, fun x hx => ?_⟩
  · rw [List.pairwise_iff_getElem]
    intro i j hi hj hij
    have := right_up h hij hj
    rw [getD_of hi, getD_of hj] at this
    exact this
  · obtain ⟨i, hi, rfl⟩ := List.getElem_of_mem hx
    have := rg_ok ((frs_all h).2 i hi)
    rw [getD_of hi] at this
    exact ⟨this.1, this.2.1, this.2.2.1⟩
theorem RgL.put {l : List Fm} (h : RgL l) (c : Cg) : RgL (l.map (·.put c)) := by
  refine ⟨?_, fun x hx => ?_⟩
  · rw [List.pairwise_map]
    simp only [put_un]
    exact h.1
  · obtain ⟨y, hy, rfl⟩ := List.mem_map.1 hx
    rw [put_un, put_size]
    exact h.2 y hy
theorem RgL.ap {l : List Fm} (h : RgL l) (L : List Cg) : RgL (apL l L) := by
  unfold apL
  induction L generalizing l with
  | nil => exact h
  | cons c L ih => rw [List.foldl_cons]; exact ih (h.put c)

def upF (l : List Fm) (k : Nat) : List Fm := l.filter fun f => decide (f.un ≤ (k : Int))
theorem upF_zero {l : List Fm} (h : RgL l) : upF l 0 = [] := by
  unfold upF
  rw [List.filter_eq_nil_iff]
  intro x hx
  have := h.2 x hx
  simp
  omega
theorem upF_all {l : List Fm} (h : RgL l) : upF l 8 = l := by
  unfold upF
  rw [List.filter_eq_self]
  intro x hx
  have := h.2 x hx
  exact decide_eq_true (by omega)
theorem upF_step (k : Nat) : ∀ {l : List Fm}, l.Pairwise (fun f g => f.un < g.un) → upF l (k + 1) = upF l k ++ (if plI l ((k : Int) + 1) < 0 then [] else [l.getD (plI l ((k : Int) + 1)).toNat fm0])
  | [], _ => by unfold upF plI idxOf; simp
  | x :: l, h => by
    obtain ⟨hx, hl⟩ := List.pairwise_cons.1 h
    have ih := upF_step k hl
    unfold upF plI at *
    rw [idxOf]
    have c1 : (((k + 1 : Nat)) : Int) = (k : Int) + 1 := by omega
    rw [c1] at ih ⊢
    have hpos : ∀ m : Int, x.un ≤ m → (x :: l).filter (fun f : Fm => decide (f.un ≤ m)) = x :: l.filter (fun f : Fm => decide (f.un ≤ m)) := fun m h => List.filter_cons_of_pos (p := fun f : Fm => decide (f.un ≤ m)) (decide_eq_true h)
    have hneg : ∀ m : Int, ¬ x.un ≤ m → (x :: l).filter (fun f : Fm => decide (f.un ≤ m)) = l.filter (fun f : Fm => decide (f.un ≤ m)) := fun m h => List.filter_cons_of_neg (p := fun f : Fm => decide (f.un ≤ m)) (by simpa using h)
    by_cases h1 : x.un ≤ (k : Int)
    · rw [hpos _ (by omega), hpos _ h1, ih]
      rw [decide_eq_false (show ¬ x.un = (k : Int) + 1 by omega)]
      simp only [Bool.false_eq_true, if_false]
      by_cases h2 : idxOf (fun f : Fm => decide (f.un = (k : Int) + 1)) l < 0
      · rw [if_pos h2, if_pos h2, if_pos (by decide)]; rfl
      · rw [if_neg h2, if_neg h2, if_neg (by omega), show (idxOf (fun f : Fm => decide (f.un = (k : Int) + 1)) l + 1).toNat = (idxOf (fun f : Fm => decide (f.un = (k : Int) + 1)) l).toNat + 1 by omega]
        rfl
    · have hn : ∀ m : Int, m ≤ (k : Int) + 1 → (l.filter fun f => decide (f.un ≤ m)) = [] := fun m hm => by
        rw [List.filter_eq_nil_iff]
        intro y hy
        have := hx y hy
        simp
        omega
      rw [hneg _ h1, hn (k : Int) (by omega)]
      by_cases h2 : x.un = (k : Int) + 1
      · rw [hpos _ (by omega), hn _ (by omega), decide_eq_true h2]
        simp
      · rw [hneg _ (by omega), hn _ (by omega), decide_eq_false h2]
        have hno : idxOf (fun f : Fm => decide (f.un = (k : Int) + 1)) l = -1 := idxOf_none fun i hi => by
          have := hx l[i] (List.getElem_mem hi)
          exact decide_eq_false (by omega)
        rw [hno]
        simp
theorem upF_len (l : List Fm) (k : Nat) (hl : l.length ≤ 8) : (upF l k).length ≤ 8 := Nat.le_trans (List.length_filter_le _ _) hl

def befC (x y : Cg) : Bool := decide (x.un < y.un) || (decide (x.un = y.un) && decide (x.ad < y.ad))
def cgE (a : List Fm) (L : List Cg) (i : Nat) : Int :=
  if (L.getD i cg0).ad < 1 ∨ 512 < (L.getD i cg0).ad ∨ (L.getD i cg0).by_ < 0 ∨ 255 < (L.getD i cg0).by_ then 2
  else if plI a (L.getD i cg0).un < 0 then 6
  else if 0 < i ∧ befC (L.getD (i - 1) cg0) (L.getD i cg0) = false then 9 else 0
def appE (a : List Fm) (L : List Cg) : Int := if rightE a ≠ 0 then rightE a else if 4096 < L.length then 5 else firstE (cgE a L) L.length
def appV (a : List Fm) (L : List Cg) : List Fm := if appE a L ≠ 0 then [] else apL a L
theorem cg_ok {a : List Fm} {L : List Cg} {i : Nat} (h : cgE a L i = 0) : (1 ≤ (L.getD i cg0).ad ∧ (L.getD i cg0).ad ≤ 512 ∧ 0 ≤ (L.getD i cg0).by_ ∧ (L.getD i cg0).by_ ≤ 255) ∧ ¬ plI a (L.getD i cg0).un < 0 ∧ (0 < i → befC (L.getD (i - 1) cg0) (L.getD i cg0) = true) := by
  unfold cgE at h
  by_cases h1 : (L.getD i cg0).ad < 1 ∨ 512 < (L.getD i cg0).ad ∨ (L.getD i cg0).by_ < 0 ∨ 255 < (L.getD i cg0).by_
  · rw [if_pos h1] at h; cases h
  rw [if_neg h1] at h
  by_cases h2 : plI a (L.getD i cg0).un < 0
  · rw [if_pos h2] at h; cases h
  rw [if_neg h2] at h
  by_cases h3 : 0 < i ∧ befC (L.getD (i - 1) cg0) (L.getD i cg0) = false
  · rw [if_pos h3] at h; cases h
  refine ⟨by omega, h2, fun h4 => ?_⟩
  cases hb : befC (L.getD (i - 1) cg0) (L.getD i cg0) with
  | true => rfl
  | false => exact absurd ⟨h4, hb⟩ h3
theorem app_ok {a : List Fm} {L : List Cg} (h : appE a L = 0) : rightE a = 0 ∧ L.length ≤ 4096 ∧ ∀ i, i < L.length → cgE a L i = 0 := by
  unfold appE at h
  by_cases h1 : rightE a ≠ 0
  · rw [if_pos h1] at h; exact absurd h h1
  rw [if_neg h1] at h
  by_cases h2 : 4096 < L.length
  · rw [if_pos h2] at h; cases h
  rw [if_neg h2] at h
  exact ⟨Classical.not_not.1 h1, by omega, firstE_zero h⟩

theorem byV_set (s : List UInt8) (j : Nat) {v : Int} (h0 : 0 ≤ v) (h1 : v ≤ 255) : (byV s).set j (.int .u8 v) = byV (s.set j (u8v v)) := by
  unfold byV
  rw [List.map_set, u8v_nat h0 h1]
theorem RdI.store {S : Nat} {w : World} {M : Nat} {R : List (Int × Nat × Nat)} {l : List Fm} (h : RdI S w M R l) (hg : RgL l) (c : Cg) (k : Nat) (hk : k < l.length) (hkR : k < R.length) (hku : l[k].un = c.un) (h1 : 1 ≤ c.ad) (h2 : c.ad ≤ 512) (h3 : 0 ≤ c.by_) (h4 : c.by_ ≤ 255) :
    RdI S (w.setCell ⟨R[k].2.1, (c.ad - 1).toNat, none⟩ (.int .u8 c.by_)) M R (l.map (·.put c)) := by
  obtain ⟨a1, a2, a3, a4, a5⟩ := h
  refine ⟨a1.far _ _ (a4 k hkR hk).2.2.1, a2, by rw [List.length_map]; exact a3, fun i hi hi' => ?_, a5⟩
  rw [List.length_map] at hi'
  obtain ⟨b1, b2, b3, b4⟩ := a4 i hi hi'
  rw [List.getElem_map, put_un]
  refine ⟨b1, b2, b3, ?_⟩
  have hlt := List.pairwise_iff_getElem.1 hg.1
  by_cases hik : i = k
  · subst hik
    have hsz := (hg.2 _ (List.getElem_mem hi')).2.2
    unfold Fm.put
    rw [if_pos hku.symm]
    show Cells _ _ (byV (l[i].sl.data.toList.set (c.ad - 1).toNat (u8v c.by_)).toArray.toList)
    rw [← byV_set _ _ h3 h4]
    exact b4.set _ _ (by unfold byV; rw [List.length_map, Array.length_toList]; show _ < l[i].sl.size; omega)
  · have hne : ¬ c.un = l[i].un := by
      rw [← hku]
      rcases Nat.lt_or_gt_of_ne hik with hl | hl
      · have := hlt i k hi' hk hl; omega
      · have := hlt k i hk hi' hl; omega
    unfold Fm.put
    rw [if_neg hne]
    exact b4.far _ _ (fun e => hik (a5 i k hi hkR e.symm))
end Go.Proofs.YtppehllccdjfkaaGreatDoor

namespace Go.Proofs.YtppehllccdjfkaaGreatDoor
open Go.RowKit

set_option maxHeartbeats 4000000 in
theorem rplace_any (A : Option Addr) (n c : Nat) (P : List Fm) (u : Int) (w : World) (hl : shFm.In w A n P) (hn : n ≤ 9223372036854775806) :
    Calls Tryz.prog 61 #[.slice A n c, .int .i64 u] w fun e w' => e = .returned (.int .i64 (plI P u)) ∧ Below w.heap.size w w' := by
  obtain ⟨rfl, _⟩ := id hl
  have HL := Lib.hid hl
  obtain ⟨E, hE⟩ : ∃ E, E = plI P u := ⟨_, rfl⟩
  rw [← hE]
  have HE := Lib.hid hE
  clear hl hE
  go_enter Tryz.func61, Tryz.ntmps61
  go_wp2_with fail
  go_loopw [5] (fun iv wr => ∃ k : Nat, k ≤ P.length ∧ iv = .int .i64 k ∧ (∀ j (h : j < P.length), j < k → decide (P[j].un = u) = false) ∧ Below w.heap.size w wr) (fun iv _ => P.length - (intOf iv).toNat)
  case atStart => exact ⟨0, Nat.zero_le _, rfl, fun j _ h => absurd h (Nat.not_lt_zero _), Below.refl _ _⟩
  case round =>
    obtain ⟨k, hk, rfl, hall, hBr⟩ := hrel
    have HAll := Lib.hid hall
    clear hall
    by_cases hlt : k < P.length
    · obtain ⟨b, o, rfl, hbl, hcell⟩ := fm_at HL.out (by omega)
      have p0 := (hBr.cell (p := ⟨b, o + k * 2, none⟩) hbl).trans (hcell k hlt).1
      have hbw : b < wr.heap.size := Nat.lt_of_lt_of_le hbl hBr.size
      have HY := Lib.hid (show decide (P[k].un = u) = true → E = k from fun h => HE.out.trans (idxOf_some hlt (fun i hi => HAll.out i (by omega) hi) h))
      have HN := Lib.hid (put_all (p := fun f : Fm => decide (f.un = u)) hlt HAll.out)
      have i0 : (0 : Int) ≤ (k : Int) := by omega
      have i1 : (k : Int) < (P.length : Int) := by omega
      have w1 : IntKind.i64.wrap ((k : Int) + 1) = (k : Int) + 1 := IntWalk.i64_in _ (by omega)
      clear hcell
      generalize P[k].un = x at *
      have hbq : (x == u) = decide (x = u) := by rw [Bool.eq_iff_iff]; simp
      cases hd : decide (x = u) with
      | true =>
        rw [hd] at hbq
        have hee : E = k := HY.out hd
        subst hee
        clear hd HY HN
        go_wp2_with fail
        go_ret
        exact ⟨rfl, hBr⟩
      | false =>
        rw [hd] at hbq
        have HN1 := Lib.hid (HN.out hd)
        clear hd HY HN
        go_wp2_with fail
        go_roundw
        case rel => exact ⟨k + 1, by omega, by go_num, HN1.out, hBr⟩
        case measure => simp [intOf]; omega
    · obtain rfl : k = P.length := by omega
      have hE0 : E = -1 := HE.out.trans (idxOf_none fun i h => HAll.out i h h)
      subst hE0
      go_wp2_with fail
      go_ret
      exact ⟨rfl, hBr⟩
end Go.Proofs.YtppehllccdjfkaaGreatDoor

namespace Go.Proofs.YtppehllccdjfkaaGreatDoor
open Go.RowKit

theorem rd_conv {S : Nat} {w : World} {M : Nat} {R : List (Int × Nat × Nat)} {l : List Fm} (h : RdI S w M R l) (hg : RgL l) {k : Nat} (hk : k < l.length) (hkR : k < R.length) :
    (convert 105 9 (.slice (some ⟨R[k].2.1, 0, none⟩) 512 R[k].2.2)).run Tryz.prog w = .ok (.string l[k].sl) w := by
  have hc := (h.2.2.2.1 k hkR hk).2.2.2
  have hs : l[k].sl.data.toList.length = 512 := by
    have := (hg.2 _ (List.getElem_mem hk)).2.2
    rw [Array.length_toList]; exact this
  have h := run_convert_bytes_back (P := Tryz.prog) w 105 9 5 ⟨R[k].2.1, 0, none⟩ R[k].2.2 l[k].sl.data.toList Tryz.underlying105 Tryz.underlying5 Tryz.underlying9 (fun j hj => by
    have hu : (byV l[k].sl.data.toList)[j]? = some (.int .u8 (l[k].sl.data.toList[j].toNat : Int)) := by
      unfold byV
      rw [List.getElem?_map, List.getElem?_eq_getElem hj]
      rfl
    have hcc := hc.at_ hu
    rw [show ((⟨R[k].2.1, 0, none⟩ : Addr).add j) = ⟨R[k].2.1, j, none⟩ by unfold Addr.add; split <;> simp_all, hcc])
  rw [hs] at h
  simpa using h
set_option maxRecDepth 100000 in
set_option maxHeartbeats 8000000 in
theorem uframesR_any (S M : Nat) (R : List (Int × Nat × Nat)) (l : List Fm) (w : World) (h : RdI S w M R l) (hg : RgL l) (hl8 : l.length ≤ 8) :
    Calls Tryz.prog 57 #[.map (some M)] w fun e w' => ∃ r, e = .returned r ∧ shFm.Out 83 l w r w' := by
  have HI := Lib.hid h
  have HG := Lib.hid hg
  have HLV := Lib.hid (fun u => show lookV true (rdL R) u (.slice none 0 0) = .tuple #[(match (if plI l u < 0 then none else (R[(plI l u).toNat]?).map fun p => Value.slice (some ⟨p.2.1, 0, none⟩) 512 p.2.2) with | some v => v | none => .slice none 0 0), .bool (if plI l u < 0 then none else (R[(plI l u).toNat]?).map fun p => Value.slice (some ⟨p.2.1, 0, none⟩) 512 p.2.2).isSome] by
    unfold lookV
    rw [if_pos rfl, look_rd h]
    by_cases hn : plI l u < 0
    · rw [if_pos hn]; rfl
    · rw [if_neg hn]
      cases R[(plI l u).toNat]? <;> rfl)
  have hB := Below.refl w.heap.size w
  have HB := Lib.hid hB
  have HS8 := Lib.hid (fun k => upF_len l k hl8)
  have HAll := Lib.hid (upF_all hg)
  have HZ := Lib.hid (upF_zero hg)
  clear h hg hl8
  go_enter Tryz.func57, Tryz.ntmps57
  go_wp2_with fail
  go_loopw [3, 4] (fun vo iv wr => ∃ k : Nat, k ≤ 8 ∧ iv = .int .i64 ((k : Int) + 1) ∧ wr.ownsRow w.heap.size 83 2 vo (upF l k).length (shFm.vs (upF l k)) ∧ Below w.heap.size w wr) (fun _ iv _ => 9 - (intOf iv).toNat)
  case atStart => exact ⟨0, Nat.zero_le _, rfl, by rw [HZ.out]; exact World.ownsRow_nil _ _ _ _, HB.out⟩
  case round =>
    obtain ⟨k, hk, rfl, hown, hb⟩ := hrel
    have hsz := hb.size
    have Hb := Lib.hid hb
    have hlen := HS8.out k
    have HM := Lib.hid (HI.out.1.below hb)
    by_cases hlt : k < 8
    case pos =>
      have hk1 : (k : Int) + 1 ≤ 8 := by omega
      have w1 : IntKind.i64.wrap ((k : Int) + 1 + 1) = (k : Int) + 1 + 1 := IntWalk.i64_in _ (by omega)
      have hst : upF l (k + 1) = upF l k ++ (if plI l ((k : Int) + 1) < 0 then [] else [l.getD (plI l ((k : Int) + 1)).toNat fm0]) := upF_step k HG.out.1
      have hlv := HLV.out ((k : Int) + 1)
      have hge : -1 ≤ plI l ((k : Int) + 1) := idxOf_ge l
      have hli : plI l ((k : Int) + 1) < l.length := idxOf_lt l
      obtain ⟨Ao, co, rfl⟩ := own_form hown
      by_cases hn : plI l ((k : Int) + 1) < 0
      · rw [if_pos hn] at hst
        rw [List.append_nil] at hst
        have HLk := Lib.hid (show lookV true (rdL R) ((k : Int) + 1) (.slice none 0 0) = .tuple #[.slice none 0 0, .bool false] by rw [hlv, if_pos hn]; rfl)
        have HSt := Lib.hid hst
        have HOw := Lib.hid hown
        clear hlv hst hown hlen hn hge hli
        go_wp2_with (at_lookup; refine wpList_lookL _ rfl _ _ _ _ rfl _ _ Tryz.underlying104 iK (KeyTy.int Tryz.underlying3) M (rdL R) ((k : Int) + 1) rfl rfl HM.out (.slice none 0 0) (by simp) ?_; rw [HLk.out])
        go_roundw
        case rel => exact ⟨k + 1, by omega, by go_num, by rw [HSt.out]; exact HOw.out, Hb.out⟩
        case measure => simp [intOf]; omega
      · rw [if_neg hn] at hst
        obtain ⟨p, hp⟩ : ∃ p : Nat, plI l ((k : Int) + 1) = p := ⟨(plI l ((k : Int) + 1)).toNat, by omega⟩
        have hpl : p < l.length := by omega
        have hpR : p < R.length := by rw [HI.out.2.2.1]; exact hpl
        have hun : l[p].un = (k : Int) + 1 := plI_hit hpl hp
        rw [hp, show ((p : Int)).toNat = p by omega, getD_of hpl] at hst
        have HLk := Lib.hid (show lookV true (rdL R) ((k : Int) + 1) (.slice none 0 0) = .tuple #[.slice (some ⟨R[p].2.1, 0, none⟩) 512 R[p].2.2, .bool true] by rw [hlv, if_neg hn, hp, show ((p : Int)).toNat = p by omega, List.getElem?_eq_getElem hpR]; rfl)
        have hcv := rd_conv (HI.out.below hb) HG.out hpl hpR
        have hvs : shFm.vs (upF l (k + 1)) = shFm.vs (upF l k) ++ [.int .i64 ((k : Int) + 1), .string l[p].sl] := by rw [hst, Sh.vs_append, Sh.vs_one1, ← hun]; rfl
        have hln : (upF l (k + 1)).length = (upF l k).length + 1 := by rw [hst, List.length_append]; rfl
        have HSt := Lib.hid (And.intro hln hvs)
        generalize l[p].sl = str at *
        generalize R[p].2.1 = B at *
        generalize R[p].2.2 = cap at *
        clear hlv hst hln hvs hn hge hli hp hpl hpR hun
        go_wp2_with (first | (at_lookup; refine wpList_lookL _ rfl _ _ _ _ rfl _ _ Tryz.underlying104 iK (KeyTy.int Tryz.underlying3) M (rdL R) ((k : Int) + 1) rfl rfl HM.out (.slice none 0 0) (by simp) ?_; rw [HLk.out]) | (at_builtin; refine wpList_push rfl _ _ _ rfl w.heap.size _ _ 2 24 Tryz.underlying33 infoFm rfl (by omega) _ (upF l k).length (shFm.vs (upF l k)) rfl hown [.int .i64 ((k : Int) + 1), .string str] _ _ _ rfl (by first | rfl | simp) rfl (fm_one _ _) (by unfold maxLen; omega) (by omega) (by first | omega | (simp; omega) | simp) ?_; intro g cap w1 hown1 hg1))
        go_roundw
        case rel => exact ⟨k + 1, by omega, by go_num, by rw [HSt.out.1, HSt.out.2]; exact hown1, below_push Hb.out (Nat.le_refl _) hown hg1⟩
        case measure => simp [intOf]; omega
    case neg =>
      obtain rfl : k = 8 := by omega
      rw [HAll.out] at hown
      obtain ⟨Ao, co, rfl⟩ := own_form hown
      have HOw := Lib.hid hown
      clear hown hlen
      go_wp2_with fail
      go_ret
      exact ⟨_, rfl, Ao, co, rfl, HOw.out, Hb.out⟩
set_option maxHeartbeats 2000000 in
theorem ubefore_any (x y : Cg) (w : World) :
    Calls Tryz.prog 69 #[.agg #[.int .i64 x.un, .int .i64 x.ad, .int .i64 x.by_], .agg #[.int .i64 y.un, .int .i64 y.ad, .int .i64 y.by_]] w fun e w' => e = .returned (.bool (befC x y)) ∧ Below w.heap.size w w' := by
  obtain ⟨xu, xa, xb⟩ := x
  obtain ⟨yu, ya, yb⟩ := y
  have hq : befC ⟨xu, xa, xb⟩ ⟨yu, ya, yb⟩ = (decide (xu < yu) || (decide (xu = yu) && decide (xa < ya))) := rfl
  have he : (xu == yu) = decide (xu = yu) := by rw [Bool.eq_iff_iff]; simp
  obtain ⟨W, hW⟩ : ∃ W, W = ((w.alloc (.cells #[.int .i64 xu, .int .i64 xa, .int .i64 xb] 71)).alloc (.cells #[.int .i64 yu, .int .i64 ya, .int .i64 yb] 71)) := ⟨_, rfl⟩
  obtain ⟨hB0, hK0⟩ := box2 #[.int .i64 xu, .int .i64 xa, .int .i64 xb] 71 #[.int .i64 yu, .int .i64 ya, .int .i64 yb] 71 w W hW
  have hK : ∀ w', Below W.heap.size W w' → w'.cell? ⟨w.heap.size, 0, none⟩ = some (.int .i64 xu) ∧ w'.cell? ⟨w.heap.size, 1, none⟩ = some (.int .i64 xa) ∧ w'.cell? ⟨w.heap.size, 2, none⟩ = some (.int .i64 xb) ∧ w'.cell? ⟨w.heap.size + 1, 0, none⟩ = some (.int .i64 yu) ∧ w'.cell? ⟨w.heap.size + 1, 1, none⟩ = some (.int .i64 ya) ∧ w'.cell? ⟨w.heap.size + 1, 2, none⟩ = some (.int .i64 yb) := fun w' h => ⟨(hK0 w' h).1 0 _ rfl, (hK0 w' h).1 1 _ rfl, (hK0 w' h).1 2 _ rfl, (hK0 w' h).2 0 _ rfl, (hK0 w' h).2 1 _ rfl, (hK0 w' h).2 2 _ rfl⟩
  have HK := Lib.hid hK
  have HW := Lib.hid hW
  have HB0 := Lib.hid hB0
  have hB := Below.refl W.heap.size W
  obtain ⟨c0, c1, c2, c3, c4, c5⟩ := hK W hB
  clear hW hB0 hK hK0
  by_cases h1 : xu < yu
  · rw [decide_eq_true h1, Bool.true_or] at hq
    generalize befC _ _ = q at *
    subst hq
    go_enter Tryz.func69, Tryz.ntmps69
    go_wp2_with fail
    rw [← HW.out]
    go_wp2_with fail
    go_ret
    exact ⟨rfl, HB0.out⟩
  by_cases h2 : xu = yu
  · have e1 : (xu == yu) = true := by simpa using h2
    rw [decide_eq_false h1, decide_eq_true h2, Bool.true_and, Bool.false_or] at hq
    rw [hq]
    clear hq he h2
    go_enter Tryz.func69, Tryz.ntmps69
    go_wp2_with fail
    rw [← HW.out]
    go_wp2_with fail
    go_ret
    exact ⟨rfl, HB0.out⟩
  · have e1 : (xu == yu) = false := by simpa using h2
    rw [decide_eq_false h1, decide_eq_false h2, Bool.false_and, Bool.false_or] at hq
    rw [hq]
    clear hq he h2
    go_enter Tryz.func69, Tryz.ntmps69
    go_wp2_with fail
    rw [← HW.out]
    go_wp2_with fail
    go_ret
    exact ⟨rfl, HB0.out⟩

def chE (a : List Fm) (x y : Cg) : Int :=
  if x.ad < 1 ∨ 512 < x.ad ∨ x.by_ < 0 ∨ 255 < x.by_ then 2 else if plI a x.un < 0 then 6 else if x.un < y.un ∨ x.un = y.un ∧ x.ad ≤ y.ad then 9 else 0
theorem cgE_ch {a : List Fm} (hg : RgL a) (L : List Cg) (i : Nat) : cgE a L i = chE a (L.getD i cg0) (if i = 0 then cg0 else L.getD (i - 1) cg0) := by
  unfold cgE chE
  by_cases h1 : (L.getD i cg0).ad < 1 ∨ 512 < (L.getD i cg0).ad ∨ (L.getD i cg0).by_ < 0 ∨ 255 < (L.getD i cg0).by_
  · rw [if_pos h1, if_pos h1]
  rw [if_neg h1, if_neg h1]
  by_cases h2 : plI a (L.getD i cg0).un < 0
  · rw [if_pos h2, if_pos h2]
  rw [if_neg h2, if_neg h2]
  by_cases h0 : i = 0
  · rw [if_neg (by omega), if_pos h0]
    have hlt : plI a (L.getD i cg0).un < a.length := idxOf_lt a
    have hun := plI_hit (l := a) (u := (L.getD i cg0).un) (k := (plI a (L.getD i cg0).un).toNat) (by omega) (by omega)
    have := (hg.2 _ (List.getElem_mem (show (plI a (L.getD i cg0).un).toNat < a.length by omega))).1
    rw [hun] at this
    rw [if_neg (show ¬ ((L.getD i cg0).un < cg0.un ∨ (L.getD i cg0).un = cg0.un ∧ (L.getD i cg0).ad ≤ cg0.ad) from fun h => by
      have e : cg0.un = 0 := rfl
      omega)]
  · rw [if_neg h0]
    have hb : (befC (L.getD (i - 1) cg0) (L.getD i cg0) = false) ↔ ((L.getD i cg0).un < (L.getD (i - 1) cg0).un ∨ (L.getD i cg0).un = (L.getD (i - 1) cg0).un ∧ (L.getD i cg0).ad ≤ (L.getD (i - 1) cg0).ad) := by
      unfold befC
      rw [← Bool.not_eq_true]
      simp only [Bool.or_eq_true, Bool.and_eq_true, decide_eq_true_eq]
      omega
    by_cases h3 : befC (L.getD (i - 1) cg0) (L.getD i cg0) = false
    · rw [if_pos ⟨by omega, h3⟩, if_pos (hb.1 h3)]
    · rw [if_neg (fun h => h3 h.2), if_neg (fun h => h3 (hb.2 h))]
set_option maxRecDepth 100000 in
set_option maxHeartbeats 4000000 in
theorem rchange_any (A : Option Addr) (n c : Nat) (a : List Fm) (x y : Cg) (w : World) (hl : shFm.In w A n a) (hn : n ≤ 9223372036854775806) :
    Calls Tryz.prog 70 #[.slice A n c, .agg #[.int .i64 x.un, .int .i64 x.ad, .int .i64 x.by_], .agg #[.int .i64 y.un, .int .i64 y.ad, .int .i64 y.by_]] w fun e w' => e = .returned (.int .i64 (chE a x y)) ∧ Below w.heap.size w w' := by
  have HPl := Lib.hid (fun w h => rplace_any A n c a x.un w h hn)
  have hE : chE a x y = if x.ad < 1 ∨ 512 < x.ad ∨ x.by_ < 0 ∨ 255 < x.by_ then 2 else if plI a x.un < 0 then 6 else if x.un < y.un ∨ x.un = y.un ∧ x.ad ≤ y.ad then 9 else 0 := rfl
  generalize chE a x y = E at *
  generalize plI a x.un = K at *
  obtain ⟨xu, xa, xb⟩ := x
  obtain ⟨yu, ya, yb⟩ := y
  dsimp only at hE HPl ⊢
  obtain ⟨W, hW⟩ : ∃ W, W = ((w.alloc (.cells #[.int .i64 xu, .int .i64 xa, .int .i64 xb] 130)).alloc (.cells #[.int .i64 yu, .int .i64 ya, .int .i64 yb] 130)) := ⟨_, rfl⟩
  obtain ⟨hB0, hK0⟩ := box2 #[.int .i64 xu, .int .i64 xa, .int .i64 xb] 130 #[.int .i64 yu, .int .i64 ya, .int .i64 yb] 130 w W hW
  have hK : ∀ w', Below W.heap.size W w' → w'.cell? ⟨w.heap.size, 0, none⟩ = some (.int .i64 xu) ∧ w'.cell? ⟨w.heap.size, 1, none⟩ = some (.int .i64 xa) ∧ w'.cell? ⟨w.heap.size, 2, none⟩ = some (.int .i64 xb) ∧ w'.cell? ⟨w.heap.size + 1, 0, none⟩ = some (.int .i64 yu) ∧ w'.cell? ⟨w.heap.size + 1, 1, none⟩ = some (.int .i64 ya) ∧ w'.cell? ⟨w.heap.size + 1, 2, none⟩ = some (.int .i64 yb) := fun w' h => ⟨(hK0 w' h).1 0 _ rfl, (hK0 w' h).1 1 _ rfl, (hK0 w' h).1 2 _ rfl, (hK0 w' h).2 0 _ rfl, (hK0 w' h).2 1 _ rfl, (hK0 w' h).2 2 _ rfl⟩
  have HK := Lib.hid hK
  have HW := Lib.hid hW
  have HB0 := Lib.hid hB0
  have hB := Below.refl W.heap.size W
  obtain ⟨c0, c1, c2, c3, c4, c5⟩ := hK W hB
  clear hW hB0 hK hK0
  have HL := Lib.hid (hl.below HB0.out)
  clear hl hn
  by_cases h1 : xa < 1
  · rw [if_pos (by omega)] at hE
    subst hE
    go_enter Tryz.func70, Tryz.ntmps70
    go_wp2_with fail
    rw [← HW.out]
    go_wp2_with fail
    go_ret
    exact ⟨rfl, HB0.out.trans (hB.mono HB0.out.size)⟩
  by_cases h2 : 512 < xa
  · rw [if_pos (by omega)] at hE
    subst hE
    go_enter Tryz.func70, Tryz.ntmps70
    go_wp2_with fail
    rw [← HW.out]
    go_wp2_with fail
    go_ret
    exact ⟨rfl, HB0.out.trans (hB.mono HB0.out.size)⟩
  by_cases h3 : xb < 0
  · rw [if_pos (by omega)] at hE
    subst hE
    go_enter Tryz.func70, Tryz.ntmps70
    go_wp2_with fail
    rw [← HW.out]
    go_wp2_with fail
    go_ret
    exact ⟨rfl, HB0.out.trans (hB.mono HB0.out.size)⟩
  by_cases h4 : 255 < xb
  · rw [if_pos (by omega)] at hE
    subst hE
    go_enter Tryz.func70, Tryz.ntmps70
    go_wp2_with fail
    rw [← HW.out]
    go_wp2_with fail
    go_ret
    exact ⟨rfl, HB0.out.trans (hB.mono HB0.out.size)⟩
  rw [if_neg (by omega)] at hE
  by_cases h5 : K < 0
  · rw [if_pos h5] at hE
    subst hE
    go_enter Tryz.func70, Tryz.ntmps70
    go_wp2_with fail
    rw [← HW.out]
    refine (HPl.out _ (HL.out.below hB)).mono ?_
    rintro e wk ⟨rfl, hb⟩
    replace hB := hB.trans (hb.mono hB.size)
    clear hb
    obtain ⟨c0, c1, c2, c3, c4, c5⟩ := HK.out _ hB
    go_wp2_with fail
    go_ret
    exact ⟨rfl, HB0.out.trans (hB.mono HB0.out.size)⟩
  rw [if_neg h5] at hE
  by_cases h6 : xu < yu
  · rw [if_pos (.inl h6)] at hE
    subst hE
    go_enter Tryz.func70, Tryz.ntmps70
    go_wp2_with fail
    rw [← HW.out]
    refine (HPl.out _ (HL.out.below hB)).mono ?_
    rintro e wk ⟨rfl, hb⟩
    replace hB := hB.trans (hb.mono hB.size)
    clear hb
    obtain ⟨c0, c1, c2, c3, c4, c5⟩ := HK.out _ hB
    go_wp2_with fail
    go_ret
    exact ⟨rfl, HB0.out.trans (hB.mono HB0.out.size)⟩
  by_cases h7 : xu = yu
  · have e1 : (xu == yu) = true := by simpa using h7
    by_cases h8 : xa ≤ ya
    · rw [if_pos (.inr ⟨h7, h8⟩)] at hE
      subst hE
      clear h7
      go_enter Tryz.func70, Tryz.ntmps70
      go_wp2_with fail
      rw [← HW.out]
      refine (HPl.out _ (HL.out.below hB)).mono ?_
      rintro e wk ⟨rfl, hb⟩
      replace hB := hB.trans (hb.mono hB.size)
      clear hb
      obtain ⟨c0, c1, c2, c3, c4, c5⟩ := HK.out _ hB
      go_wp2_with fail
      go_ret
      exact ⟨rfl, HB0.out.trans (hB.mono HB0.out.size)⟩
    · rw [if_neg (by omega)] at hE
      subst hE
      clear h7
      go_enter Tryz.func70, Tryz.ntmps70
      go_wp2_with fail
      rw [← HW.out]
      refine (HPl.out _ (HL.out.below hB)).mono ?_
      rintro e wk ⟨rfl, hb⟩
      replace hB := hB.trans (hb.mono hB.size)
      clear hb
      obtain ⟨c0, c1, c2, c3, c4, c5⟩ := HK.out _ hB
      go_wp2_with fail
      go_ret
      exact ⟨rfl, HB0.out.trans (hB.mono HB0.out.size)⟩
  · have e1 : (xu == yu) = false := by simpa using h7
    rw [if_neg (by omega)] at hE
    subst hE
    go_enter Tryz.func70, Tryz.ntmps70
    go_wp2_with fail
    rw [← HW.out]
    refine (HPl.out _ (HL.out.below hB)).mono ?_
    rintro e wk ⟨rfl, hb⟩
    replace hB := hB.trans (hb.mono hB.size)
    clear hb
    obtain ⟨c0, c1, c2, c3, c4, c5⟩ := HK.out _ hB
    go_wp2_with fail
    go_ret
    exact ⟨rfl, HB0.out.trans (hB.mono HB0.out.size)⟩
end Go.Proofs.YtppehllccdjfkaaGreatDoor

namespace Go.Proofs.YtppehllccdjfkaaGreatDoor
open Go.RowKit

set_option maxRecDepth 100000 in
set_option maxHeartbeats 16000000 in
theorem uApply_any (A : Option Addr) (n c : Nat) (A' : Option Addr) (n' c' : Nat) (a : List Fm) (L : List Cg) (w : World) (ha : shFm.In w A n a) (hl : shCg.In w A' n' L) (hn : n ≤ 9223372036854775806) (hn' : n' ≤ 9223372036854775806) (hsa : ∀ x ∈ a, x.sl.size ≤ 9223372036854775807) :
    Calls Tryz.prog 27 #[.slice A n c, .slice A' n' c'] w fun e w' => ∃ r, e = .returned (.tuple #[r, .int .i64 (appE a L)]) ∧ shFm.Out 83 (appV a L) w r w' := by
  obtain ⟨rfl, _⟩ := id hl
  have hB := Below.refl w.heap.size w
  have hE : appE a L = if rightE a ≠ 0 then rightE a else if 4096 < L.length then 5 else firstE (cgE a L) L.length := rfl
  have hV : appV a L = if appE a L ≠ 0 then [] else apL a L := rfl
  have HRa := Lib.hid (fun w h => uright_any A n c a w h hn hsa)
  have HRd := Lib.hid (fun w h1 h2 => uread_any A n c a w h1 h2)
  have HBf := Lib.hid (fun x y w => ubefore_any x y w)
  have HFr := Lib.hid (fun S M R l w h1 h2 h3 => uframesR_any S M R l w h1 h2 h3)
  have HA := Lib.hid ha
  have HL := Lib.hid hl
  have HN := Lib.hid hn'
  generalize appE a L = E at *
  generalize appV a L = V at *
  have HEE := Lib.hid hE
  have HVV := Lib.hid hV
  clear ha hl hE hV hsa hn hn'
  by_cases hra : rightE a = 0
  case neg =>
    have hE := HEE.out
    rw [if_pos hra] at hE
    have hV0 : V = [] := by rw [HVV.out, if_pos (by rw [hE]; exact hra)]
    generalize rightE a = q at *
    subst hE hV0
    have g1 : (E == 0) = false := by simpa using hra
    have g2 : (E != 0) = true := by simpa using hra
    go_enter Tryz.func27, Tryz.ntmps27
    go_wp2_with fail
    refine (HRa.out _ (HA.out.below hB)).mono ?_
    rintro e wk ⟨rfl, hb⟩
    replace hB := hB.trans (hb.mono hB.size)
    clear hb
    go_wp2_with fail
    go_ret2
    exact ⟨_, rfl, Sh.Out.nil hB⟩
  have hE := HEE.out
  rw [if_neg (fun h => h hra)] at hE
  rw [hra] at HRa
  by_cases h4 : 4096 < L.length
  · rw [if_pos h4] at hE
    have hV0 : V = [] := by rw [HVV.out, if_pos (by rw [hE]; decide)]
    subst hE hV0
    have g1 : (4096 : Int) < (L.length : Int) := by omega
    clear hra
    go_enter Tryz.func27, Tryz.ntmps27
    go_wp2_with fail
    refine (HRa.out _ (HA.out.below hB)).mono ?_
    rintro e wk ⟨rfl, hb⟩
    replace hB := hB.trans (hb.mono hB.size)
    clear hb
    go_wp2_with fail
    go_ret2
    exact ⟨_, rfl, Sh.Out.nil hB⟩
  rw [if_neg h4] at hE
  have g1 : ¬ (4096 : Int) < (L.length : Int) := by omega
  replace HEE := Lib.hid hE
  have HRg := Lib.hid (rgL_of hra)
  have HR0 := Lib.hid hra
  have H8 := Lib.hid (frs_all hra).1
  clear hra hE
  go_enter Tryz.func27, Tryz.ntmps27
  go_wp2_with fail
  refine (HRa.out _ (HA.out.below hB)).mono ?_
  rintro e wk ⟨rfl, hb⟩
  replace hB := hB.trans (hb.mono hB.size)
  clear hb
  go_wp2_with fail
  refine (HRd.out _ (HA.out.below hB) HR0.out).mono ?_
  rintro e w5 ⟨M, R, rfl, hI, hb⟩
  obtain ⟨S, hS⟩ : ∃ S, S = wk.heap.size := ⟨_, rfl⟩
  rw [← hS] at hI
  have HSw := Lib.hid (show w.heap.size ≤ S by rw [hS]; exact hB.size)
  have HI0 := Lib.hid hI
  replace hB := hB.trans (hb.mono hB.size)
  have HB0 := Lib.hid hB
  clear hb hI hS hB
  go_wp2_with fail
  go_loopw [24] (fun iv wr => ∃ k : Nat, k ≤ L.length ∧ iv = .int .i64 k ∧ (∀ j, j < k → cgE a L j = 0) ∧ RdI S wr M R (apL a (L.take k)) ∧ Below w.heap.size w wr) (fun iv _ => L.length - (intOf iv).toNat)
  case atStart => exact ⟨0, Nat.zero_le _, rfl, fun j h => absurd h (Nat.not_lt_zero _), HI0.out, HB0.out⟩
  case round =>
    obtain ⟨k, hk, rfl, hall, hI, hB⟩ := hrel
    have HAll := Lib.hid hall
    have HI := Lib.hid hI
    clear hall hI
    by_cases hlt : k < L.length
    case neg =>
      obtain rfl : k = L.length := by omega
      have hE := HEE.out
      rw [firstE_none HAll.out] at hE
      have hV0 : V = apL a L := by rw [HVV.out, if_neg (fun h => h hE)]
      have HV0 := Lib.hid hV0
      rw [List.take_length] at HI
      subst hE
      clear hV0
      go_wp2_with fail
      refine (HFr.out S M R (apL a L) _ HI.out (HRg.out.ap L) (by rw [apL_len]; exact H8.out)).mono ?_
      rintro e w6 ⟨r, rfl, A5, c5, rfl, ho, hb⟩
      have HOut := Lib.hid (Sh.Out.up (⟨A5, c5, rfl, ho, hb⟩ : shFm.Out 83 (apL a L) _ _ w6) hB)
      clear ho hb
      go_wp2_with fail
      go_ret2
      exact ⟨_, rfl, by rw [HV0.out]; exact HOut.out⟩
    case pos =>
      obtain ⟨b, o, rfl, hbl, hcell⟩ := cg_at HL.out (by omega)
      have HC := Lib.hid (fun (w' : World) (h : Below w.heap.size w w') j (hj : j < L.length) => show w'.cell? ⟨b, o + j * 3, none⟩ = some (.int .i64 L[j].un) ∧ w'.cell? ⟨b, o + j * 3 + 1, none⟩ = some (.int .i64 L[j].ad) ∧ w'.cell? ⟨b, o + j * 3 + 2, none⟩ = some (.int .i64 L[j].by_) from ⟨(h.cell (p := ⟨b, o + j * 3, none⟩) hbl).trans (hcell j hj).1, (h.cell (p := ⟨b, o + j * 3 + 1, none⟩) hbl).trans (hcell j hj).2.1, (h.cell (p := ⟨b, o + j * 3 + 2, none⟩) hbl).trans (hcell j hj).2.2⟩)
      have HBl := Lib.hid (fun (w' : World) (h : Below w.heap.size w w') => Nat.lt_of_lt_of_le hbl h.size)
      obtain ⟨p0, p1, p2⟩ := HC.out _ hB k hlt
      have hbw := HBl.out _ hB
      have i0 : (0 : Int) ≤ (k : Int) := by omega
      have i1 : (k : Int) < (L.length : Int) := by omega
      have w0 : IntKind.i64.wrap ((k : Int) + 1) = (k : Int) + 1 := IntWalk.i64_in _ (by have := HN.out; omega)
      have hSome := Lib.hid (fun (h : cgE a L k ≠ 0) => HEE.out.trans (firstE_some HAll.out h hlt))
      have hZero := Lib.hid (fun (h : cgE a L k = 0) => firstE_step HAll.out h)
      have hEr := Lib.hid (fun (h : E ≠ 0) => show V = [] by rw [HVV.out, if_pos h])
      have hAE : cgE a L k = if L[k].ad < 1 ∨ 512 < L[k].ad ∨ L[k].by_ < 0 ∨ 255 < L[k].by_ then 2 else if plI a L[k].un < 0 then 6 else if 0 < k ∧ befC (L.getD (k - 1) cg0) L[k] = false then 9 else 0 := by
        unfold cgE
        rw [getD_of hlt]
      have hlk := look_rd HI.out L[k].un
      rw [plI_ap] at hlk
      have hge : -1 ≤ plI a L[k].un := idxOf_ge a
      have hpl : plI a L[k].un < a.length := idxOf_lt a
      have HHit := Lib.hid (fun (p : Nat) (hp : p < a.length) (h : plI a L[k].un = p) => plI_hit hp h)
      have HTk := Lib.hid (show apL a (L.take (k + 1)) = (apL a (L.take k)).map (·.put L[k]) by rw [List.take_succ_eq_append_getElem hlt, apL_push])
      have HPv := Lib.hid (fun (j : Nat) (hj : k = j + 1) (w' : World) (h : Below w.heap.size w w') => HC.out w' h j (by omega))
      have HBp := Lib.hid (fun (y : Cg) w => HBf.out y L[k] w)
      clear hcell
      have HRl := Lib.hid (show R.length = a.length by rw [HI.out.2.2.1, apL_len])
      generalize L[k] = x at *
      obtain ⟨xu, xa, xb⟩ := x
      dsimp only at p0 p1 p2 hAE hlk hge hpl HHit HBp
      obtain ⟨W1, hW1⟩ : ∃ W1, W1 = wr.alloc (.cells #[.int .i64 xu, .int .i64 xa, .int .i64 xb] 71) := ⟨_, rfl⟩
      have hb1 : Below wr.heap.size wr W1 := by rw [hW1]; exact (Below.refl _ _).alloc (Nat.le_refl _) _
      have HX1 := Lib.hid (show Cells W1 wr.heap.size [.int .i64 xu, .int .i64 xa, .int .i64 xb] by rw [hW1]; exact Cells.fresh wr [.int .i64 xu, .int .i64 xa, .int .i64 xb] _)
      have HB1 := Lib.hid (hB.trans (hb1.mono hB.size))
      have HI1 := Lib.hid (HI.out.below hb1)
      have HW1 := Lib.hid hW1
      have HMb := Lib.hid (fun (w' : World) (h : Below wr.heap.size wr w') => (HI.out.below h).1)
      obtain ⟨sv, okb, hlv⟩ : ∃ sv okb, lookV true (rdL R) xu (.slice none 0 0) = .tuple #[sv, .bool okb] := ⟨_, _, rfl⟩
      have HLV := Lib.hid hlv
      have HNo := Lib.hid (show plI a xu < 0 → okb = false from fun h => by
        unfold lookV at hlv
        rw [if_pos rfl, hlk, if_pos h] at hlv
        injection hlv with hlv
        have := congrArg (fun q : Array Value => q[1]?) hlv
        simpa using this.symm)
      have HYe := Lib.hid (fun (p : Nat) (hp : p < R.length) (h : plI a xu = p) => show okb = true ∧ sv = .slice (some ⟨R[p].2.1, 0, none⟩) 512 R[p].2.2 by
        unfold lookV at hlv
        rw [if_pos rfl, hlk, if_neg (show ¬ plI a xu < 0 by omega), h, show ((p : Int)).toNat = p by omega, List.getElem?_eq_getElem hp] at hlv
        injection hlv with hlv
        have h0 := congrArg (fun q : Array Value => q[0]?) hlv
        have h1 := congrArg (fun q : Array Value => q[1]?) hlv
        exact ⟨by simpa using h1.symm, by simpa using h0.symm⟩)
      clear hW1 hb1 hlv hlk
      by_cases e1 : xa < 1
      · rw [if_pos (.inl e1)] at hAE
        have hE := hSome.out (by rw [hAE]; decide)
        rw [hAE] at hE
        have hV0 := hEr.out (by rw [hE]; decide)
        subst hE hV0
        go_wp2_with (at_lookup; refine wpList_lookL _ rfl _ _ _ _ rfl _ _ Tryz.underlying104 iK (KeyTy.int Tryz.underlying3) M (rdL R) xu rfl rfl (HMb.out _ (by (repeat (first | exact Below.refl _ _ | assumption | apply Below.drew | apply below_drewN | (refine Below.alloc ?_ (by first | omega | (simp; omega) | simp) _) | (refine Below.setCell ?_ (by first | omega | (simp; omega) | simp) _) | (refine Below.trans ?_ (Below.mono (by assumption) (by first | omega | (simp; omega) | simp))))))) (.slice none 0 0) (by simp) ?_; rw [HLV.out])
        go_ret2
        exact ⟨_, rfl, Sh.Out.nil (hB.alloc hB.size _)⟩
      by_cases e2 : 512 < xa
      · rw [if_pos (.inr (.inl e2))] at hAE
        have hE := hSome.out (by rw [hAE]; decide)
        rw [hAE] at hE
        have hV0 := hEr.out (by rw [hE]; decide)
        subst hE hV0
        go_wp2_with (at_lookup; refine wpList_lookL _ rfl _ _ _ _ rfl _ _ Tryz.underlying104 iK (KeyTy.int Tryz.underlying3) M (rdL R) xu rfl rfl (HMb.out _ (by (repeat (first | exact Below.refl _ _ | assumption | apply Below.drew | apply below_drewN | (refine Below.alloc ?_ (by first | omega | (simp; omega) | simp) _) | (refine Below.setCell ?_ (by first | omega | (simp; omega) | simp) _) | (refine Below.trans ?_ (Below.mono (by assumption) (by first | omega | (simp; omega) | simp))))))) (.slice none 0 0) (by simp) ?_; rw [HLV.out])
        go_ret2
        exact ⟨_, rfl, Sh.Out.nil (hB.alloc hB.size _)⟩
      by_cases e3 : xb < 0
      · rw [if_pos (.inr (.inr (.inl e3)))] at hAE
        have hE := hSome.out (by rw [hAE]; decide)
        rw [hAE] at hE
        have hV0 := hEr.out (by rw [hE]; decide)
        subst hE hV0
        go_wp2_with (at_lookup; refine wpList_lookL _ rfl _ _ _ _ rfl _ _ Tryz.underlying104 iK (KeyTy.int Tryz.underlying3) M (rdL R) xu rfl rfl (HMb.out _ (by (repeat (first | exact Below.refl _ _ | assumption | apply Below.drew | apply below_drewN | (refine Below.alloc ?_ (by first | omega | (simp; omega) | simp) _) | (refine Below.setCell ?_ (by first | omega | (simp; omega) | simp) _) | (refine Below.trans ?_ (Below.mono (by assumption) (by first | omega | (simp; omega) | simp))))))) (.slice none 0 0) (by simp) ?_; rw [HLV.out])
        go_ret2
        exact ⟨_, rfl, Sh.Out.nil (hB.alloc hB.size _)⟩
      by_cases e4 : 255 < xb
      · rw [if_pos (.inr (.inr (.inr e4)))] at hAE
        have hE := hSome.out (by rw [hAE]; decide)
        rw [hAE] at hE
        have hV0 := hEr.out (by rw [hE]; decide)
        subst hE hV0
        go_wp2_with (at_lookup; refine wpList_lookL _ rfl _ _ _ _ rfl _ _ Tryz.underlying104 iK (KeyTy.int Tryz.underlying3) M (rdL R) xu rfl rfl (HMb.out _ (by (repeat (first | exact Below.refl _ _ | assumption | apply Below.drew | apply below_drewN | (refine Below.alloc ?_ (by first | omega | (simp; omega) | simp) _) | (refine Below.setCell ?_ (by first | omega | (simp; omega) | simp) _) | (refine Below.trans ?_ (Below.mono (by assumption) (by first | omega | (simp; omega) | simp))))))) (.slice none 0 0) (by simp) ?_; rw [HLV.out])
        go_ret2
        exact ⟨_, rfl, Sh.Out.nil (hB.alloc hB.size _)⟩
      rw [if_neg (by omega)] at hAE
      by_cases e5 : plI a xu < 0
      · rw [if_pos e5] at hAE
        have hE := hSome.out (by rw [hAE]; decide)
        rw [hAE] at hE
        have hV0 := hEr.out (by rw [hE]; decide)
        subst hE hV0
        obtain rfl := HNo.out e5
        clear e5 HNo HYe hge hpl HHit
        go_wp2_with (at_lookup; refine wpList_lookL _ rfl _ _ _ _ rfl _ _ Tryz.underlying104 iK (KeyTy.int Tryz.underlying3) M (rdL R) xu rfl rfl (HMb.out _ (by (repeat (first | exact Below.refl _ _ | assumption | apply Below.drew | apply below_drewN | (refine Below.alloc ?_ (by first | omega | (simp; omega) | simp) _) | (refine Below.setCell ?_ (by first | omega | (simp; omega) | simp) _) | (refine Below.trans ?_ (Below.mono (by assumption) (by first | omega | (simp; omega) | simp))))))) (.slice none 0 0) (by simp) ?_; rw [HLV.out])
        go_ret2
        exact ⟨_, rfl, Sh.Out.nil (hB.alloc hB.size _)⟩
      rw [if_neg e5] at hAE
      obtain ⟨p, hp⟩ : ∃ p : Nat, plI a xu = p := ⟨(plI a xu).toNat, by omega⟩
      have hpR : p < R.length := by rw [HRl.out]; omega
      obtain ⟨rfl, rfl⟩ := HYe.out p hpR hp
      have hpA : p < (apL a (L.take k)).length := by rw [apL_len]; omega
      have HPu := Lib.hid (show (apL a (L.take k))[p].un = xu from plI_hit hpA (by rw [plI_ap]; exact hp))
      obtain ⟨j, hj⟩ : ∃ j : Nat, (j : Int) = xa - 1 := ⟨(xa - 1).toNat, by omega⟩
      have hj512 : j < 512 := by omega
      have HPg := Lib.hid (fun (w' : World) (h : RdI S w' M R (apL a (L.take k))) => show (∃ old, w'.cell? ⟨R[p].2.1, j, none⟩ = some (.int .u8 old)) ∧ w'.frozen? ⟨R[p].2.1, j, none⟩ = false ∧ S ≤ R[p].2.1 from by
        obtain ⟨-, -, -, h4, -⟩ := h
        obtain ⟨-, b2, -, b4⟩ := h4 p hpR hpA
        have hsz := ((HRg.out.ap (L.take k)).2 _ (List.getElem_mem hpA)).2.2
        have hjl : j < (apL a (L.take k))[p].sl.data.toList.length := by rw [Array.length_toList]; show j < (apL a (L.take k))[p].sl.size; omega
        have hu : (byV (apL a (L.take k))[p].sl.data.toList)[j]? = some (.int .u8 ((apL a (L.take k))[p].sl.data.toList[j].toNat : Int)) := by
          unfold byV
          rw [List.getElem?_map, List.getElem?_eq_getElem hjl]
          rfl
        exact ⟨⟨_, b4.at_ hu⟩, b4.fr hu, b2⟩)
      have HSt := Lib.hid (fun (w' : World) (h : RdI S w' M R (apL a (L.take k))) => show RdI S (w'.setCell ⟨R[p].2.1, j, none⟩ (.int .u8 xb)) M R (apL a (L.take (k + 1))) from by
        have h2 := h.store (HRg.out.ap (L.take k)) ⟨xu, xa, xb⟩ p hpA hpR HPu.out (by show 1 ≤ xa; omega) (by show xa ≤ 512; omega) (by show 0 ≤ xb; omega) (by show xb ≤ 255; omega)
        rw [HTk.out]
        have e : ((⟨xu, xa, xb⟩ : Cg).ad - 1).toNat = j := by show (xa - 1).toNat = j; omega
        rw [e] at h2
        exact h2)
      have m1 : IntKind.i64.wrap (xa - 1) = (j : Int) := by rw [← hj]; exact IntWalk.i64_in _ (by omega)
      have m2 : IntKind.u8.wrap xb = xb := IntWalk.u8_in _ (by omega)
      have j0 : (0 : Int) ≤ (j : Int) := by omega
      have j1 : (j : Int) < 512 := by omega
      clear hp hge hpl HHit HYe HNo HPu e5 hj
      generalize hBq : R[p].2.1 = Bq at *
      generalize R[p].2.2 = cap at *
      clear hBq
      by_cases hk0 : k = 0
      · subst hk0
        have HN2 := Lib.hid (hZero.out (by rw [hAE, if_neg (fun h => absurd h.1 (by omega))]))
        simp only [Nat.zero_mul, Nat.add_zero] at p0 p1 p2
        go_wp2_with (at_lookup; refine wpList_lookL _ rfl _ _ _ _ rfl _ _ Tryz.underlying104 iK (KeyTy.int Tryz.underlying3) M (rdL R) xu rfl rfl (HMb.out _ (by (repeat (first | exact Below.refl _ _ | assumption | apply Below.drew | apply below_drewN | (refine Below.alloc ?_ (by first | omega | (simp; omega) | simp) _) | (refine Below.setCell ?_ (by first | omega | (simp; omega) | simp) _) | (refine Below.trans ?_ (Below.mono (by assumption) (by first | omega | (simp; omega) | simp))))))) (.slice none 0 0) (by simp) ?_; rw [HLV.out])
        rw [← HW1.out]
        have d0 := HX1.out.at_ (j := 0) rfl
        have d1 := HX1.out.at_ (j := 1) rfl
        have d2 := HX1.out.at_ (j := 2) rfl
        go_quiet (fail)
        have hBx := below_drewN HB1.out nq
        have hIx := HI1.out.below (below_drewN (Below.refl W1.heap.size W1) nq)
        have hXx := HX1.out.below (below_drewN (Below.refl W1.heap.size W1) nq) HX1.out.1
        generalize W1.drewN nq = w6 at *
        have f0 := hXx.at_ (j := 0) rfl
        have f1 := hXx.at_ (j := 1) rfl
        have f2 := hXx.at_ (j := 2) rfl
        obtain ⟨⟨old, z0⟩, z1, z2⟩ := HPg.out _ hIx
        have HIx := Lib.hid (HSt.out _ hIx)
        have HBx := Lib.hid (show Below w.heap.size w (w6.setCell ⟨Bq, j, none⟩ (.int .u8 xb)) from hBx.setCell (by have := HSw.out; show w.heap.size ≤ Bq; omega) _)
        clear hIx hXx hBx d0 d1 d2
        go_wp2_with fail
        go_roundw
        case rel => exact ⟨1, by omega, by go_num, HN2.out, HIx.out, HBx.out⟩
        case measure => simp [intOf]; omega
      · obtain ⟨q, rfl⟩ : ∃ q, k = q + 1 := ⟨k - 1, by omega⟩
        have hqL : q < L.length := by omega
        rw [Nat.add_sub_cancel, getD_of hqL] at hAE
        have HCq := Lib.hid (fun (w' : World) (h : Below w.heap.size w w') => HPv.out q rfl w' h)
        have HBq := Lib.hid (HBp.out L[q])
        generalize L[q] = y at *
        obtain ⟨yu, ya, yb⟩ := y
        dsimp only at HCq HBq
        generalize befC ⟨yu, ya, yb⟩ ⟨xu, xa, xb⟩ = bf at *
        have k0 : (0 : Int) ≤ (q : Int) := by omega
        have k1 : (q : Int) < (L.length : Int) := by omega
        have k2 : (0 : Int) < (q : Int) + 1 := by omega
        have v1 : IntKind.i64.wrap ((q : Int) + 1 - 1) = (q : Int) := by rw [Int.add_sub_cancel]; exact IntWalk.i64_in _ (by have := HN.out; omega)
        have v2 : IntKind.i64.wrap (q : Int) = (q : Int) := IntWalk.i64_in _ (by have := HN.out; omega)
        have v3 : IntKind.i64.wrap ((q : Int) + 1 + 1) = (q : Int) + 1 + 1 := IntWalk.i64_in _ (by have := HN.out; omega)
        have v4 : IntKind.i64.wrap ((q : Int) + 1) = (q : Int) + 1 := IntWalk.i64_in _ (by have := HN.out; omega)
        cases bf with
        | false =>
          rw [if_pos ⟨by omega, rfl⟩] at hAE
          have hE := hSome.out (by rw [hAE]; decide)
          rw [hAE] at hE
          have hV0 := hEr.out (by rw [hE]; decide)
          subst hE hV0
          obtain ⟨r0, r1, r2⟩ := HCq.out _ HB1.out
          have hbw1 := HBl.out _ HB1.out
          go_wp2_with (at_lookup; refine wpList_lookL _ rfl _ _ _ _ rfl _ _ Tryz.underlying104 iK (KeyTy.int Tryz.underlying3) M (rdL R) xu rfl rfl (HMb.out _ (by (repeat (first | exact Below.refl _ _ | assumption | apply Below.drew | apply below_drewN | (refine Below.alloc ?_ (by first | omega | (simp; omega) | simp) _) | (refine Below.setCell ?_ (by first | omega | (simp; omega) | simp) _) | (refine Below.trans ?_ (Below.mono (by assumption) (by first | omega | (simp; omega) | simp))))))) (.slice none 0 0) (by simp) ?_; rw [HLV.out])
          rw [← HW1.out]
          have d0 := HX1.out.at_ (j := 0) rfl
          have d1 := HX1.out.at_ (j := 1) rfl
          have d2 := HX1.out.at_ (j := 2) rfl
          go_still_tail 9, (by kernel_rfl)
          change wpList _ _ _ _ _ W1.drew
          have hBx := HB1.out.drew
          have hIx := HI1.out.below (Below.refl W1.heap.size W1).drew
          have hXx := HX1.out.below (Below.refl W1.heap.size W1).drew HX1.out.1
          generalize W1.drew = w6 at *
          go_wp2_with fail
          refine (HBq.out _).mono ?_
          rintro e w7 ⟨rfl, hb⟩
          have HBx := Lib.hid (hBx.trans (hb.mono hBx.size))
          clear hb
          go_wp2_with fail
          go_ret2
          exact ⟨_, rfl, Sh.Out.nil HBx.out⟩
        | true =>
          have HN2 := Lib.hid (hZero.out (by rw [hAE, if_neg (fun h => absurd h.2 (by decide))]))
          obtain ⟨r0, r1, r2⟩ := HCq.out _ HB1.out
          have hbw1 := HBl.out _ HB1.out
          go_wp2_with (at_lookup; refine wpList_lookL _ rfl _ _ _ _ rfl _ _ Tryz.underlying104 iK (KeyTy.int Tryz.underlying3) M (rdL R) xu rfl rfl (HMb.out _ (by (repeat (first | exact Below.refl _ _ | assumption | apply Below.drew | apply below_drewN | (refine Below.alloc ?_ (by first | omega | (simp; omega) | simp) _) | (refine Below.setCell ?_ (by first | omega | (simp; omega) | simp) _) | (refine Below.trans ?_ (Below.mono (by assumption) (by first | omega | (simp; omega) | simp))))))) (.slice none 0 0) (by simp) ?_; rw [HLV.out])
          rw [← HW1.out]
          have d0 := HX1.out.at_ (j := 0) rfl
          have d1 := HX1.out.at_ (j := 1) rfl
          have d2 := HX1.out.at_ (j := 2) rfl
          go_still_tail 9, (by kernel_rfl)
          change wpList _ _ _ _ _ W1.drew
          have hBx := HB1.out.drew
          have hIx := HI1.out.below (Below.refl W1.heap.size W1).drew
          have hXx := HX1.out.below (Below.refl W1.heap.size W1).drew HX1.out.1
          generalize W1.drew = w6 at *
          go_wp2_with fail
          refine (HBq.out _).mono ?_
          rintro e w7 ⟨rfl, hb⟩
          replace hIx := hIx.below hb
          replace hXx := hXx.below hb hXx.1
          replace hBx := hBx.trans (hb.mono hBx.size)
          clear hb
          have f0 := hXx.at_ (j := 0) rfl
          have f1 := hXx.at_ (j := 1) rfl
          have f2 := hXx.at_ (j := 2) rfl
          obtain ⟨⟨old, z0⟩, z1, z2⟩ := HPg.out _ hIx
          have HIx := Lib.hid (HSt.out _ hIx)
          have HBx := Lib.hid (show Below w.heap.size w (w7.setCell ⟨Bq, j, none⟩ (.int .u8 xb)) from hBx.setCell (by have := HSw.out; show w.heap.size ≤ Bq; omega) _)
          clear hIx hXx hBx d0 d1 d2
          go_wp2_with fail
          go_roundw
          case rel => exact ⟨q + 1 + 1, by omega, by go_num, HN2.out, HIx.out, HBx.out⟩
          case measure => simp [intOf]; omega
end Go.Proofs.YtppehllccdjfkaaGreatDoor

namespace Go.Proofs.YtppehllccdjfkaaGreatDoor
open Go.ChangeShapes Go.WideShapes Go.ChangeAt Go.RowKit Go.Deep

def Cg.good (_ : Cg) : Prop := True
section
variable {H : Type} {enc : TypeId × Value → H} {w : World} {base : Nat} {spare : Nat → Bool} {held : Bool}
theorem change_cells {fuel : Nat} {cs : List Value} {x : DataW H × List MemPlace} (h : DataW.trod enc Tryz.prog w base spare held fuel 71 cs = some x) : ∃ g : Cg, cs = shCg.cs g ∧ g.good := by
  obtain ⟨hl, hf⟩ := trod_field (fs := Tryz.prog.fieldsOf 71) (by kernel_rfl) h
  rw [show Tryz.prog.cellsOf 71 = 3 by kernel_rfl] at hl
  rw [show (Tryz.prog.fieldsOf 71).map (fun f => (f.type, f.offset)) = #[(3, 0), (3, 1), (3, 2)] by kernel_rfl] at hf
  obtain ⟨a, b, c, rfl⟩ := cells3 hl
  obtain ⟨n0, y0, h0⟩ := hf 0 _ _ rfl
  obtain ⟨n1, y1, h1⟩ := hf 1 _ _ rfl
  obtain ⟨n2, y2, h2⟩ := hf 2 _ _ rfl
  rw [cellsI1] at h0 h1 h2
  obtain ⟨x1, rfl, g1⟩ := trod_i h0
  obtain ⟨x2, rfl, g2⟩ := trod_i h1
  obtain ⟨x3, rfl, g3⟩ := trod_i h2
  exact ⟨⟨x1, x2, x3⟩, rfl, trivial⟩
end
end Go.Proofs.YtppehllccdjfkaaGreatDoor

namespace Go.Proofs.YtppehllccdjfkaaGreatDoor
open Go.RowKit

def apF (f : Fm) (L : List Cg) : Fm := L.foldl Fm.put f
theorem apF_push (f : Fm) (L : List Cg) (c : Cg) : apF f (L ++ [c]) = (apF f L).put c := by unfold apF; rw [List.foldl_append]; rfl
theorem apF_un (f : Fm) (L : List Cg) : (apF f L).un = f.un := fold_un L f
theorem apF_size (f : Fm) (L : List Cg) : (apF f L).sl.size = f.sl.size := fold_size L f
theorem Cells.grownO {w w' : World} {P : Nat} {row : Option Nat} {vs : List Value} (h : Cells w P vs) (hg : w.grownBy w' row) (hne : ∀ r, row = some r → P ≠ r) : Cells w' P vs := by
  have hb := hg.block P h.1 (fun e => hne P e.symm rfl)
  exact ⟨Nat.lt_of_lt_of_le h.1 hg.size, fun j u hu => ⟨(World.cell?_of_block hb).trans (h.2 j u hu).1, (frozen_of_block hb).trans (h.2 j u hu).2⟩⟩
theorem by_conv (w : World) (B cap : Nat) (s : ByteArray) (hs : s.size = 512) (hc : Cells w B (byV s.data.toList)) :
    (convert 105 9 (.slice (some ⟨B, 0, none⟩) 512 cap)).run Tryz.prog w = .ok (.string s) w := by
  have hl : s.data.toList.length = 512 := by rw [Array.length_toList]; exact hs
  have h := run_convert_bytes_back (P := Tryz.prog) w 105 9 5 ⟨B, 0, none⟩ cap s.data.toList Tryz.underlying105 Tryz.underlying5 Tryz.underlying9 (fun j hj => by
    have hu : (byV s.data.toList)[j]? = some (.int .u8 (s.data.toList[j].toNat : Int)) := by
      unfold byV
      rw [List.getElem?_map, List.getElem?_eq_getElem hj]
      rfl
    have hcc := hc.at_ hu
    rw [show ((⟨B, 0, none⟩ : Addr).add j) = ⟨B, j, none⟩ by unfold Addr.add; split <;> simp_all, hcc])
  rw [hl] at h
  simpa using h
set_option maxRecDepth 100000 in
set_option maxHeartbeats 16000000 in
theorem rApplied_any (A : Option Addr) (n c : Nat) (A' : Option Addr) (n' c' : Nat) (a : List Fm) (L : List Cg) (w : World) (ha : shFm.In w A n a) (hl : shCg.In w A' n' L) (hn' : n' ≤ 9223372036854775806) (hg : RgL a) (ha8 : a.length ≤ 8) (hok : ∀ i, i < L.length → cgE a L i = 0) :
    Calls Tryz.prog 71 #[.slice A n c, .slice A' n' c'] w fun e w' => ∃ r, e = .returned r ∧ shFm.Out 83 (apL a L) w r w' := by
  obtain ⟨rfl, _⟩ := id ha
  obtain ⟨rfl, _⟩ := id hl
  have hB := Below.refl w.heap.size w
  have HA := Lib.hid ha
  have HL := Lib.hid hl
  have HB := Lib.hid hB
  have HG := Lib.hid hg
  have HOk := Lib.hid (fun i (hi : i < L.length) => show 1 ≤ L[i].ad ∧ L[i].ad ≤ 512 ∧ 0 ≤ L[i].by_ ∧ L[i].by_ ≤ 255 from by have h := (cg_ok (hok i hi)).1; rw [getD_of hi] at h; exact h)
  have HMap := Lib.hid (show apL a L = a.map fun f => apF f L from apL_map a L)
  obtain ⟨Dn, hDn⟩ : ∃ Dn : Nat → List Fm, Dn = fun i => (a.take i).map fun f => apF f L := ⟨_, rfl⟩
  have HDe := Lib.hid (show Dn a.length = apL a L by
    subst hDn
    show (a.take a.length).map (fun f => apF f L) = apL a L
    rw [List.take_length, HMap.out])
  have HD0 := Lib.hid (show Dn 0 = [] by subst hDn; rfl)
  have HDs := Lib.hid (fun i (hi : i < a.length) => show Dn (i + 1) = Dn i ++ [apF a[i] L] by
    subst hDn
    show (a.take (i + 1)).map (fun f => apF f L) = (a.take i).map (fun f => apF f L) ++ [apF a[i] L]
    rw [List.take_succ_eq_append_getElem hi, List.map_append]
    rfl)
  have HDl := Lib.hid (fun i => show (Dn i).length ≤ 8 by
    subst hDn
    show ((a.take i).map (fun f => apF f L)).length ≤ 8
    rw [List.length_map, List.length_take]
    omega)
  have HN := Lib.hid hn'
  clear ha hl hg hok hDn hn'
  go_enter Tryz.func71, Tryz.ntmps71
  go_wp2_with fail
  go_loopw [5, 6] (fun vo iv wr => ∃ i : Nat, i ≤ a.length ∧ iv = .int .i64 i ∧ wr.ownsRow w.heap.size 83 2 vo (Dn i).length (shFm.vs (Dn i)) ∧ Below w.heap.size w wr) (fun _ iv _ => a.length - (intOf iv).toNat)
  case atStart => exact ⟨0, Nat.zero_le _, rfl, by rw [HD0.out]; exact World.ownsRow_nil _ _ _ _, HB.out⟩
  case round =>
    obtain ⟨i, hi, rfl, hown, hb⟩ := hrel
    have Hb := Lib.hid hb
    obtain ⟨Ao, co, rfl⟩ := own_form hown
    have HOw := Lib.hid hown
    by_cases hlt : i < a.length
    case neg =>
      obtain rfl : i = a.length := by omega
      rw [HDe.out] at hown
      have HOw2 := Lib.hid hown
      clear hown hb
      go_wp2_with fail
      go_ret
      exact ⟨_, rfl, Ao, co, by show Value.slice Ao (Dn a.length).length co = _; rw [HDe.out], HOw2.out, Hb.out⟩
    case pos =>
      obtain ⟨b1, o1, rfl, hb1, hc1⟩ := fm_at HA.out (by omega)
      have HC1 := Lib.hid (hc1 i hlt)
      have i0 : (0 : Int) ≤ (i : Int) := by omega
      have i1 : (i : Int) < (a.length : Int) := by omega
      have w0 : IntKind.i64.wrap ((i : Int) + 1) = (i : Int) + 1 := IntWalk.i64_in _ (by omega)
      have hsz := (HG.out.2 _ (List.getElem_mem hlt)).2.2
      have HSt := Lib.hid (HDs.out i hlt)
      have hdl := HDl.out i
      clear hc1
      generalize a[i] = f at *
      obtain ⟨fu, fs⟩ := f
      dsimp only at HC1 hsz
      obtain ⟨k0, k1⟩ := HC1.out
      have p0 := (hb.cell (p := ⟨b1, o1 + i * 2, none⟩) hb1).trans k0
      have p1 := (hb.cell (p := ⟨b1, o1 + i * 2 + 1, none⟩) hb1).trans k1
      have hbw : b1 < wr.heap.size := Nat.lt_of_lt_of_le hb1 hb.size
      have hcv := Lib.run_convert_string_bytes (P := Tryz.prog) wr 9 105 5 fs (u := .string) Tryz.underlying9 Tryz.underlying105 Tryz.underlying5
      rw [hsz] at hcv
      generalize hcap : grownCap wr 512 0 5 = cap at hcv
      obtain ⟨V, hV⟩ : ∃ V, V = wr := ⟨_, rfl⟩
      rw [← hV] at hb hcv HOw Hb
      obtain ⟨W2, hW2⟩ : ∃ W2, W2 = Lib.bytesWorld V 5 fs := ⟨_, rfl⟩
      have hb2 : Below V.heap.size V W2 := by rw [hW2]; exact Lib.bytesWorld_below _ _ _
      have hc2 : Cells W2 V.heap.size (byV fs.data.toList) := by rw [hW2]; exact bytes_cells _ _ _
      rw [← hW2] at hcv
      have HB2 := Lib.hid hb2
      have HC2 := Lib.hid hc2
      have HSV := Lib.hid (show w.heap.size ≤ V.heap.size from hb.size)
      have HKp := Lib.hid (fun (w' : World) (h : Below V.heap.size V w') => show w'.cell? ⟨b1, o1 + i * 2, none⟩ = some (.int .i64 fu) ∧ w'.cell? ⟨b1, o1 + i * 2 + 1, none⟩ = some (.string fs) ∧ b1 < w'.heap.size from
        have h2 := hb.trans (h.mono hb.size)
        ⟨(h2.cell (p := ⟨b1, o1 + i * 2, none⟩) hb1).trans k0, (h2.cell (p := ⟨b1, o1 + i * 2 + 1, none⟩) hb1).trans k1, Nat.lt_of_lt_of_le hb1 h2.size⟩)
      clear hcap hW2 hb2 hc2 k0 k1 hown hb
      rw [hV] at hcv
      go_wp2_with fail
      rw [← hV]
      clear hV p0 p1 hbw hcv
      go_loopw [8] (fun iv w3 => ∃ k : Nat, k ≤ L.length ∧ iv = .int .i64 k ∧ Cells w3 V.heap.size (byV (apF ⟨fu, fs⟩ (L.take k)).sl.data.toList) ∧ Below V.heap.size V w3) (fun iv _ => L.length - (intOf iv).toNat)
      case atStart => exact ⟨0, Nat.zero_le _, rfl, HC2.out, HB2.out⟩
      case round =>
        obtain ⟨k, hk, rfl, hC, hB3⟩ := hrel
        have HC3 := Lib.hid hC
        clear hC
        obtain ⟨p0, p1, hbw⟩ := HKp.out _ hB3
        by_cases hlt3 : k < L.length
        case neg =>
          obtain rfl : k = L.length := by omega
          rw [List.take_length] at HC3
          have hsz4 : (apF ⟨fu, fs⟩ L).sl.size = 512 := (apF_size _ _).trans hsz
          have hC4 := HC3.out
          have hCd := HC3.out.below (Below.refl wr.heap.size wr).drew HC3.out.1
          have hvs : shFm.vs (Dn (i + 1)) = shFm.vs (Dn i) ++ [.int .i64 fu, .string (apF ⟨fu, fs⟩ L).sl] := by
            rw [HSt.out, Sh.vs_append, Sh.vs_one1]
            show _ ++ [Value.int .i64 (apF ⟨fu, fs⟩ L).un, .string (apF ⟨fu, fs⟩ L).sl] = _
            rw [apF_un]
          have hln : (Dn (i + 1)).length = (Dn i).length + 1 := by rw [HSt.out, List.length_append]; rfl
          have HSt2 := Lib.hid (And.intro hln hvs)
          have HNe := Lib.hid (fun r (h : (Value.slice Ao (Dn i).length co).ownBlock = some r) => show V.heap.size ≠ r from fun e => by have := (HOw.out.lt r h).2; omega)
          have hb4 := Hb.out.trans (hB3.mono Hb.out.size)
          have hown := own_below HOw.out hB3.drew
          have hb5 := hb4.drew
          have hsz5 := hb5.size
          have hszr := hb4.size
          have hbd : Below w.heap.size wr wr.drew := (Below.refl _ _).drew
          have HKq := Lib.hid (fun w' (h : Below w.heap.size wr w') => show w'.cell? ⟨b1, o1 + i * 2, none⟩ = some (.int .i64 fu) from (h.cell (p := ⟨b1, o1 + i * 2, none⟩) hb1).trans p0)
          generalize (apF ⟨fu, fs⟩ L).sl = str at *
          have HCv := Lib.hid (fun (w' : World) (h : Cells w' V.heap.size (byV str.data.toList)) => by_conv w' V.heap.size cap str hsz4 h)
          generalize hBq : V.heap.size = Bq at *
          clear hvs hln HC3 p1
          go_wp2_with fail
          go_region_held3 (fun w' => w'.cell? ⟨b1, o1 + i * 2, none⟩ = some (.int .i64 fu) ∧ (convert 105 9 (.slice (some ⟨Bq, 0, none⟩) 512 cap)).run Tryz.prog w' = .ok (.string str) w') (first | exact ⟨HKq.out _ (below_push hbd hsz5 hown hg1), HCv.out _ (hCd.grownO hg1 HNe.out)⟩ | exact ⟨HKq.out _ (by (repeat (first | exact Below.refl _ _ | assumption | apply Below.drew | apply below_drewN | (refine Below.alloc ?_ (by first | omega | (simp; omega) | simp) _) | (refine Below.setCell ?_ (by first | omega | (simp; omega) | simp) _) | (refine Below.trans ?_ (Below.mono (by assumption) (by first | omega | (simp; omega) | simp)))))), HCv.out _ (hC4.below (by (repeat (first | exact Below.refl _ _ | assumption | apply Below.drew | apply below_drewN | (refine Below.alloc ?_ (by first | omega | (simp; omega) | simp) _) | (refine Below.setCell ?_ (by first | omega | (simp; omega) | simp) _) | (refine Below.trans ?_ (Below.mono (by assumption) (by first | omega | (simp; omega) | simp)))))) hC4.1)⟩) ((refine step_push (by rfl) _ _ _ (by rfl) w.heap.size _ _ 2 24 Tryz.underlying33 infoFm rfl (by omega) _ (Dn i).length (shFm.vs (Dn i)) (by rfl) hown [.int .i64 fu, .string str] _ _ _ (by rfl) (by first | rfl | simp) rfl (fm_one _ _) (by unfold maxLen; omega) (by omega) (by first | omega | (simp; omega) | simp) ?_; intro g cap w1 hown1 hg1))
          go_wp2_with fail
          go_roundw
          case rel => exact ⟨i + 1, hlt, by go_num, by rw [HSt2.out.1, HSt2.out.2]; exact hown1, below_push hb5 (Nat.le_refl _) hown hg1⟩
          case measure => simp [intOf]; omega
        case pos =>
          obtain ⟨b2, o2, rfl, hb2, hc2⟩ := cg_at HL.out (by omega)
          obtain ⟨q0, q1, q2⟩ := hc2 k hlt3
          have hBB := Hb.out.trans (hB3.mono Hb.out.size)
          replace q0 := (hBB.cell (p := ⟨b2, o2 + k * 3, none⟩) hb2).trans q0
          replace q1 := (hBB.cell (p := ⟨b2, o2 + k * 3 + 1, none⟩) hb2).trans q1
          replace q2 := (hBB.cell (p := ⟨b2, o2 + k * 3 + 2, none⟩) hb2).trans q2
          have hbw2 : b2 < wr.heap.size := Nat.lt_of_lt_of_le hb2 hBB.size
          have j0 : (0 : Int) ≤ (k : Int) := by omega
          have j1 : (k : Int) < (L.length : Int) := by omega
          have w1 : IntKind.i64.wrap ((k : Int) + 1) = (k : Int) + 1 := IntWalk.i64_in _ (by have := HN.out; omega)
          have HTk := Lib.hid (show apF ⟨fu, fs⟩ (L.take (k + 1)) = (apF ⟨fu, fs⟩ (L.take k)).put L[k] by rw [List.take_succ_eq_append_getElem hlt3, apF_push])
          obtain ⟨r1, r2, r3, r4⟩ := HOk.out k hlt3
          clear hc2 hBB
          generalize L[k] = x at *
          obtain ⟨xu, xa, xb⟩ := x
          dsimp only at q0 q1 q2 r1 r2 r3 r4
          by_cases hu : xu = fu
          · have e1 : (xu == fu) = true := by simpa using hu
            subst hu
            obtain ⟨j, hj⟩ : ∃ j : Nat, (j : Int) = xa - 1 := ⟨(xa - 1).toNat, by omega⟩
            have hl3 : (apF ⟨xu, fs⟩ (L.take k)).sl.data.toList.length = 512 := by rw [Array.length_toList]; exact (apF_size _ _).trans hsz
            have hu8 : (byV (apF ⟨xu, fs⟩ (L.take k)).sl.data.toList)[j]? = some (.int .u8 ((apF ⟨xu, fs⟩ (L.take k)).sl.data.toList[j]'(by omega)).toNat) := by
              unfold byV
              rw [List.getElem?_map, List.getElem?_eq_getElem (by omega)]
              rfl
            have HPg := Lib.hid (fun (w' : World) (h : Cells w' V.heap.size (byV (apF ⟨xu, fs⟩ (L.take k)).sl.data.toList)) => show (∃ old, w'.cell? ⟨V.heap.size, j, none⟩ = some (.int .u8 old)) ∧ w'.frozen? ⟨V.heap.size, j, none⟩ = false from ⟨⟨_, h.at_ hu8⟩, h.fr hu8⟩)
            have HPut := Lib.hid (fun (w' : World) (h : Cells w' V.heap.size (byV (apF ⟨xu, fs⟩ (L.take k)).sl.data.toList)) => show Cells (w'.setCell ⟨V.heap.size, j, none⟩ (.int .u8 xb)) V.heap.size (byV (apF ⟨xu, fs⟩ (L.take (k + 1))).sl.data.toList) from by
              rw [HTk.out]
              unfold Fm.put
              rw [if_pos (show xu = (apF ⟨xu, fs⟩ (L.take k)).un by rw [apF_un])]
              show Cells _ _ (byV ((apF ⟨xu, fs⟩ (L.take k)).sl.data.toList.set (xa - 1).toNat (u8v xb)).toArray.toList)
              rw [← byV_set _ _ r3 r4, show (xa - 1).toNat = j by omega]
              exact h.set _ _ (by unfold byV; rw [List.length_map]; omega))
            have m1 : IntKind.i64.wrap (xa - 1) = (j : Int) := by rw [← hj]; exact IntWalk.i64_in _ (by omega)
            have m2 : IntKind.u8.wrap xb = xb := IntWalk.u8_in _ (by omega)
            have k0 : (0 : Int) ≤ (j : Int) := by omega
            have k1 : (j : Int) < 512 := by omega
            clear hu8 hl3 hj HTk
            generalize hBq : V.heap.size = Bq at *
            go_wp2_with fail
            go_quiet (fail)
            replace hB3 := below_drewN hB3 nq
            have hC4 := HC3.out.below (below_drewN (Below.refl wr.heap.size wr) nq) HC3.out.1
            have q0' : (wr.drewN nq).cell? ⟨b2, o2 + k * 3, none⟩ = some (.int .i64 xu) := ((below_drewN (Below.refl wr.heap.size wr) nq).cell (p := ⟨b2, o2 + k * 3, none⟩) hbw2).trans q0
            have q1' : (wr.drewN nq).cell? ⟨b2, o2 + k * 3 + 1, none⟩ = some (.int .i64 xa) := ((below_drewN (Below.refl wr.heap.size wr) nq).cell (p := ⟨b2, o2 + k * 3 + 1, none⟩) hbw2).trans q1
            have q2' : (wr.drewN nq).cell? ⟨b2, o2 + k * 3 + 2, none⟩ = some (.int .i64 xb) := ((below_drewN (Below.refl wr.heap.size wr) nq).cell (p := ⟨b2, o2 + k * 3 + 2, none⟩) hbw2).trans q2
            have hbw3 : b2 < (wr.drewN nq).heap.size := Nat.lt_of_lt_of_le hbw2 (below_drewN (Below.refl wr.heap.size wr) nq).size
            generalize wr.drewN nq = w5 at *
            go_wp2_with fail
            go_still_tail 14, (by kernel_rfl)
            change wpList _ _ _ _ _ w5.drew
            replace hB3 := hB3.drew
            replace hC4 := hC4.below (Below.refl w5.heap.size w5).drew hC4.1
            generalize w5.drew = w6 at *
            obtain ⟨⟨old, z0⟩, z1⟩ := HPg.out _ hC4
            have HC6 := Lib.hid (HPut.out _ hC4)
            have HB6 := Lib.hid (show Below Bq V (w6.setCell ⟨Bq, j, none⟩ (.int .u8 xb)) from hB3.setCell (Nat.le_refl _) _)
            clear hC4 hB3
            go_wp2_with fail
            go_roundw
            case rel => exact ⟨k + 1, by omega, by go_num, HC6.out, HB6.out⟩
            case measure => simp [intOf]; omega
          · have e1 : (xu == fu) = false := by simpa using hu
            have hput : (apF ⟨fu, fs⟩ (L.take k)).put ⟨xu, xa, xb⟩ = apF ⟨fu, fs⟩ (L.take k) := by
              unfold Fm.put
              rw [if_neg (show ¬ xu = (apF ⟨fu, fs⟩ (L.take k)).un by rw [apF_un]; exact hu)]
            rw [hput] at HTk
            clear hu hput
            go_wp2_with fail
            go_quiet (fail)
            replace hB3 := below_drewN hB3 nq
            have HC4 := Lib.hid (HC3.out.below (below_drewN (Below.refl wr.heap.size wr) nq) HC3.out.1)
            go_wp2_with fail
            go_roundw
            case rel => exact ⟨k + 1, by omega, by go_num, by rw [HTk.out]; exact HC4.out, hB3⟩
            case measure => simp [intOf]; omega
set_option maxRecDepth 100000 in
set_option maxHeartbeats 16000000 in
theorem rApply_any (A : Option Addr) (n c : Nat) (A' : Option Addr) (n' c' : Nat) (a : List Fm) (L : List Cg) (w : World) (ha : shFm.In w A n a) (hl : shCg.In w A' n' L) (hn : n ≤ 9223372036854775806) (hn' : n' ≤ 9223372036854775806) (hsa : ∀ x ∈ a, x.sl.size ≤ 9223372036854775807) :
    Calls Tryz.prog 28 #[.slice A n c, .slice A' n' c'] w fun e w' => ∃ r, e = .returned (.tuple #[r, .int .i64 (appE a L)]) ∧ shFm.Out 83 (appV a L) w r w' := by
  obtain ⟨rfl, _⟩ := id hl
  have hB := Below.refl w.heap.size w
  have hE : appE a L = if rightE a ≠ 0 then rightE a else if 4096 < L.length then 5 else firstE (cgE a L) L.length := rfl
  have hV : appV a L = if appE a L ≠ 0 then [] else apL a L := rfl
  have HRa := Lib.hid (fun w h => rright_any A n c a w h hn hsa)
  have HCh := Lib.hid (fun x y w h => rchange_any A n c a x y w h hn)
  have HAp := Lib.hid (fun w h1 h2 h3 h4 h5 => rApplied_any A n c A' L.length c' a L w h1 h2 hn' h3 h4 h5)
  have HA := Lib.hid ha
  have HL := Lib.hid hl
  have HN := Lib.hid hn'
  generalize appE a L = E at *
  generalize appV a L = V at *
  have HEE := Lib.hid hE
  have HVV := Lib.hid hV
  clear ha hl hE hV hsa hn hn'
  by_cases hra : rightE a = 0
  case neg =>
    have hE := HEE.out
    rw [if_pos hra] at hE
    have hV0 : V = [] := by rw [HVV.out, if_pos (by rw [hE]; exact hra)]
    generalize rightE a = q at *
    subst hE hV0
    have g1 : (E == 0) = false := by simpa using hra
    have g2 : (E != 0) = true := by simpa using hra
    go_enter Tryz.func28, Tryz.ntmps28
    go_wp2_with fail
    refine (HRa.out _ (HA.out.below hB)).mono ?_
    rintro e wk ⟨rfl, hb⟩
    replace hB := hB.trans (hb.mono hB.size)
    clear hb
    go_wp2_with fail
    go_ret2
    exact ⟨_, rfl, Sh.Out.nil hB⟩
  have hE := HEE.out
  rw [if_neg (fun h => h hra)] at hE
  rw [hra] at HRa
  by_cases h4 : 4096 < L.length
  · rw [if_pos h4] at hE
    have hV0 : V = [] := by rw [HVV.out, if_pos (by rw [hE]; decide)]
    subst hE hV0
    have g1 : (4096 : Int) < (L.length : Int) := by omega
    clear hra
    go_enter Tryz.func28, Tryz.ntmps28
    go_wp2_with fail
    refine (HRa.out _ (HA.out.below hB)).mono ?_
    rintro e wk ⟨rfl, hb⟩
    replace hB := hB.trans (hb.mono hB.size)
    clear hb
    go_wp2_with fail
    go_ret2
    exact ⟨_, rfl, Sh.Out.nil hB⟩
  rw [if_neg h4] at hE
  have g1 : ¬ (4096 : Int) < (L.length : Int) := by omega
  replace HEE := Lib.hid hE
  have HRg := Lib.hid (rgL_of hra)
  have H8 := Lib.hid (frs_all hra).1
  have HCE := Lib.hid (fun i => cgE_ch (rgL_of hra) L i)
  have hz : ∀ w, (Instr.build 130 #[]).run Tryz.prog w = .ok (.agg #[.int .i64 0, .int .i64 0, .int .i64 0]) w := fun w => by kernel_rfl
  clear hra hE
  go_enter Tryz.func28, Tryz.ntmps28
  go_wp2_with fail
  refine (HRa.out _ (HA.out.below hB)).mono ?_
  rintro e wk ⟨rfl, hb⟩
  replace hB := hB.trans (hb.mono hB.size)
  clear hb
  obtain ⟨W1, hW1⟩ : ∃ W1, W1 = wk.alloc (.cells #[.int .i64 0, .int .i64 0, .int .i64 0] 130) := ⟨_, rfl⟩
  have hb1 : Below wk.heap.size wk W1 := by rw [hW1]; exact (Below.refl _ _).alloc (Nat.le_refl _) _
  have HX1 := Lib.hid (show Cells W1 wk.heap.size [.int .i64 0, .int .i64 0, .int .i64 0] by rw [hW1]; exact Cells.fresh wk [.int .i64 0, .int .i64 0, .int .i64 0] _)
  have HB1 := Lib.hid (hB.trans (hb1.mono hB.size))
  have HSQ := Lib.hid (show w.heap.size ≤ wk.heap.size from hB.size)
  have HW1 := Lib.hid hW1
  clear hW1 hb1
  generalize hQq : wk.heap.size = Q at *
  have HQq := Lib.hid hQq
  obtain ⟨lst, hlst⟩ : ∃ lst : Nat → Cg, lst = fun k => if k = 0 then cg0 else L.getD (k - 1) cg0 := ⟨_, rfl⟩
  have HLs := Lib.hid (fun k (hk : k < L.length) => show lst (k + 1) = L[k] by
    subst hlst
    show (if k + 1 = 0 then cg0 else L.getD (k + 1 - 1) cg0) = L[k]
    rw [if_neg (by omega), Nat.add_sub_cancel, getD_of hk])
  have HL0 := Lib.hid (show lst 0 = cg0 by subst hlst; rfl)
  have HCl := Lib.hid (fun k => show cgE a L k = chE a (L.getD k cg0) (lst k) by subst hlst; exact HCE.out k)
  clear hlst HCE hQq
  go_wp2_with fail
  rw [← HW1.out]
  rw [HQq.out]
  go_loopw [8] (fun iv wr => ∃ k : Nat, k ≤ L.length ∧ iv = .int .i64 k ∧ (∀ j, j < k → cgE a L j = 0) ∧ Cells wr Q [.int .i64 (lst k).un, .int .i64 (lst k).ad, .int .i64 (lst k).by_] ∧ Below w.heap.size w wr) (fun iv _ => L.length - (intOf iv).toNat)
  case atStart => exact ⟨0, Nat.zero_le _, rfl, fun j h => absurd h (Nat.not_lt_zero _), by rw [HL0.out]; exact HX1.out, HB1.out⟩
  case round =>
    clear hB
    obtain ⟨k, hk, rfl, hall, hX, hB⟩ := hrel
    have HAll := Lib.hid hall
    have HX := Lib.hid hX
    clear hall hX
    by_cases hlt : k < L.length
    case neg =>
      obtain rfl : k = L.length := by omega
      have hE := HEE.out
      rw [firstE_none HAll.out] at hE
      have hV0 : V = apL a L := by rw [HVV.out, if_neg (fun h => h hE)]
      have HV0 := Lib.hid hV0
      subst hE
      clear hV0
      go_wp2_with fail
      refine (HAp.out _ (HA.out.below hB) (HL.out.below hB) HRg.out H8.out HAll.out).mono ?_
      rintro e w6 ⟨r, rfl, A5, c5, rfl, ho, hb⟩
      have HOut := Lib.hid (Sh.Out.up (⟨A5, c5, rfl, ho, hb⟩ : shFm.Out 83 (apL a L) _ _ w6) hB)
      clear ho hb
      go_wp2_with fail
      go_ret2
      exact ⟨_, rfl, by rw [HV0.out]; exact HOut.out⟩
    case pos =>
      obtain ⟨b, o, rfl, hbl, hcell⟩ := cg_at HL.out (by omega)
      have HC := Lib.hid (fun (w' : World) (h : Below w.heap.size w w') => show w'.cell? ⟨b, o + k * 3, none⟩ = some (.int .i64 L[k].un) ∧ w'.cell? ⟨b, o + k * 3 + 1, none⟩ = some (.int .i64 L[k].ad) ∧ w'.cell? ⟨b, o + k * 3 + 2, none⟩ = some (.int .i64 L[k].by_) ∧ b < w'.heap.size from ⟨(h.cell (p := ⟨b, o + k * 3, none⟩) hbl).trans (hcell k hlt).1, (h.cell (p := ⟨b, o + k * 3 + 1, none⟩) hbl).trans (hcell k hlt).2.1, (h.cell (p := ⟨b, o + k * 3 + 2, none⟩) hbl).trans (hcell k hlt).2.2, Nat.lt_of_lt_of_le hbl h.size⟩)
      have i0 : (0 : Int) ≤ (k : Int) := by omega
      have i1 : (k : Int) < (L.length : Int) := by omega
      have w0 : IntKind.i64.wrap ((k : Int) + 1) = (k : Int) + 1 := IntWalk.i64_in _ (by have := HN.out; omega)
      have hSome := Lib.hid (fun (h : cgE a L k ≠ 0) => HEE.out.trans (firstE_some HAll.out h hlt))
      have hZero := Lib.hid (fun (h : cgE a L k = 0) => firstE_step HAll.out h)
      have hEr := Lib.hid (fun (h : E ≠ 0) => show V = [] by rw [HVV.out, if_pos h])
      have hAE := HCl.out k
      rw [getD_of hlt] at hAE
      have HCk := Lib.hid (fun w h => HCh.out L[k] (lst k) w h)
      rw [← hAE] at HCk
      have HNl := Lib.hid (HLs.out k hlt)
      clear hcell hAE
      obtain ⟨p0, p1, p2, hbw⟩ := HC.out _ hB
      generalize L[k] = x at *
      generalize lst k = y at *
      generalize cgE a L k = q at *
      obtain ⟨xu, xa, xb⟩ := x
      obtain ⟨yu, ya, yb⟩ := y
      have d0 := HX.out.at_ (j := 0) rfl
      have d1 := HX.out.at_ (j := 1) rfl
      have d2 := HX.out.at_ (j := 2) rfl
      dsimp only at p0 p1 p2 d0 d1 d2 HCk
      have hQl := HX.out.1
      go_wp2_with fail
      go_still_tail 6, (by kernel_rfl)
      change wpList _ _ _ _ _ wr.drew
      have hX8 := HX.out.below (Below.refl wr.heap.size wr).drew HX.out.1
      replace hB := hB.drew
      generalize wr.drew = w8 at *
      clear p0 p1 p2 hbw d0 d1 d2 hQl
      go_wp2_with fail
      refine (HCk.out _ (HA.out.below hB)).mono ?_
      rintro e w9 ⟨rfl, hb⟩
      have hX9 := hX8.below hb hX8.1
      replace hB := hB.trans (hb.mono hB.size)
      clear hb hX8
      by_cases hq : q = 0
      case neg =>
        have hE := hSome.out hq
        have hV0 := hEr.out (by rw [hE]; exact hq)
        subst hE hV0
        have g3 : (E == 0) = false := by simpa using hq
        have g4 : (E != 0) = true := by simpa using hq
        go_wp2_with fail
        go_ret2
        exact ⟨_, rfl, Sh.Out.nil hB⟩
      case pos =>
        subst hq
        have HN2 := Lib.hid (hZero.out rfl)
        obtain ⟨p0, p1, p2, hbw⟩ := HC.out _ hB
        have d0 := hX9.at_ (j := 0) rfl
        have d1 := hX9.at_ (j := 1) rfl
        have d2 := hX9.at_ (j := 2) rfl
        have f0 := hX9.fr (j := 0) rfl
        have f1 := hX9.fr (j := 1) rfl
        have f2 := hX9.fr (j := 2) rfl
        have HX9 := Lib.hid (show Cells (((w9.setCell ⟨Q, 0, none⟩ (.int .i64 xu)).setCell ⟨Q, 1, none⟩ (.int .i64 xa)).setCell ⟨Q, 2, none⟩ (.int .i64 xb)) Q [.int .i64 xu, .int .i64 xa, .int .i64 xb] from ((hX9.set 0 (.int .i64 xu) (by simp)).set 1 (.int .i64 xa) (by simp)).set 2 (.int .i64 xb) (by simp))
        have HB9 := Lib.hid (show Below w.heap.size w (((w9.setCell ⟨Q, 0, none⟩ (.int .i64 xu)).setCell ⟨Q, 1, none⟩ (.int .i64 xa)).setCell ⟨Q, 2, none⟩ (.int .i64 xb)) from ((hB.setCell HSQ.out _).setCell HSQ.out _).setCell HSQ.out _)
        have hQl := hX9.1
        clear hX9 hB
        go_wp2_with fail
        go_roundw
        case rel => exact ⟨k + 1, hlt, by go_num, HN2.out, by rw [HNl.out]; exact HX9.out, HB9.out⟩
        case measure => simp [intOf]; omega
end Go.Proofs.YtppehllccdjfkaaGreatDoor
