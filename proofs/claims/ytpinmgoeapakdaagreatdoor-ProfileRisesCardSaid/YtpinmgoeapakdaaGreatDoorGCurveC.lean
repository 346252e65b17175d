/- Lemmas and contracts of functions, joined for the claim: CIter, CSlope, CInv, CInv2, CAwake. -/
import Derived.Test.YtpinmgoeapakdaaGreatDoorGCurveB
import Derived.Test.YtpinmgoeapakdaaGreatDoorGProgA
import Derived.Test.YtpinmgoeapakdaaGreatDoorGWord
import Derived.StillTailTactics
import Derived.Laws.EntriesVeiled
namespace Go.Proofs.YtpinmgoeapakdaaGreatDoor
open Go.RowKit Go.Shelf
attribute [local go_sem] Oper.semAt_some

theorem finRange_take2 {n k : Nat} (h : k < n) : (List.finRange n).take (k + 1) = (List.finRange n).take k ++ [⟨k, h⟩] := by
  rw [List.take_succ_eq_append_getElem (by simpa using h)]
  simp
def ptV (q : PT) : Value := .agg #[.int .i64 q.1, .int .i64 q.2]

def pX (l : List PT) (k : Nat) : PT := l.getD k (0, 0)
theorem pX_at {l : List PT} {k : Nat} (h : k < l.length) : pX l k = l[k] := getD_pt h

def prV (l : List PT) (k : Nat) : Array Value := #[ptV (pX l k), ptV (pX l (k + 1))]
set_option maxRecDepth 100000 in
set_option maxHeartbeats 8000000 in
theorem pairs1_in (n : Nat) (hn : 1 ≤ n) (y0 Bs n₀ : Nat) (A : Option Addr) (c : Nat) (l : List PT) (hlen : l.length ≤ 16) (J Jx : List (Fin (l.length - 1)) → World → Prop)
    (W : World) (hJa : AbidesFrom W.heap.size J)
    (hY : ∀ pre (x : Fin (l.length - 1)) W, J pre W → pre.length < l.length - 1 → YieldAt Fence.wide (n - 1) Tryz.prog y0 (prV l x) W fun e W' =>
      (e = .returned (.bool true) ∧ J (pre ++ [x]) W' ∧ KpR n₀ 69 W W') ∨ (e = .returned (.bool false) ∧ Jx (pre ++ [x]) W'))
    (_ : n₀ ≤ W.heap.size) (hBs : Boxed W Bs 69 (.slice A l.length c))
    (hcell : ∀ k (hk : k < l.length), ∃ b o, A = some ⟨b, o, none⟩ ∧ b < n₀ ∧ (W.cell? ⟨b, o + k * 2, none⟩ = some (.int .i64 l[k].1) ∧ W.cell? ⟨b, o + k * 2 + 1, none⟩ = some (.int .i64 l[k].2))) (h0 : J [] W) :
    CallsIn Fence.wide n Tryz.prog 184 #[.func (.yield y0) #[] #[], .pointer (some ⟨Bs, 0, none⟩)] W fun e W' => (∃ v, e = .returned v) ∧
      ((∃ ys, ys = List.finRange (l.length - 1) ∧ J ys W') ∨ (∃ pre, pre <+: List.finRange (l.length - 1) ∧ Jx pre W')) := by
  have HC := Lib.hid hcell
  have HY := Lib.hid hY
  have HJA := Lib.hid hJa
  clear hcell hY hJa
  have hc0 := hBs.cell
  refine callsIn_of_wp Tryz.func184 rfl trivial ?_ rfl
  simp only [Tryz.ntmps184, List.size_toArray, List.length_cons, List.length_nil, Nat.reduceAdd, Nat.reduceSub, Array.replicate_succ, Array.replicate_zero, List.push_toArray, List.append_toArray, List.nil_append, List.cons_append]
  gi_wp2
  gi_loopw [3] (fun i wr => ∃ k : Nat, (k + 1 ≤ l.length ∨ k = 0) ∧ i = .int .i64 ((k + 1 : Nat) : Int) ∧ J ((List.finRange (l.length - 1)).take k) wr ∧ Boxed wr Bs 69 (.slice A l.length c) ∧ Below n₀ W wr ∧ W.heap.size ≤ wr.heap.size) (fun i _ => l.length - (intOf i).toNat)
  case atStart => exact ⟨0, .inr rfl, rfl, by simpa using h0, hBs, Below.refl _ _, Nat.le_refl _⟩
  case round =>
    clear hc0
    obtain ⟨k, hk, rfl, hJ, hB, hb, hsz⟩ := hrel
    have HB := Lib.hid hB
    have HJ := Lib.hid hJ
    have Hb := Lib.hid hb
    by_cases hlt : k + 1 < l.length
    · have hc0 := hB.cell
      obtain ⟨b, o, rfl, hbl, hp⟩ := HC.out k (by omega)
      obtain ⟨q0, q1⟩ : W.cell? ⟨b, o + (k + 1) * 2, none⟩ = some (.int .i64 l[k + 1].1) ∧ W.cell? ⟨b, o + (k + 1) * 2 + 1, none⟩ = some (.int .i64 l[k + 1].2) := by
        obtain ⟨b', o', e, _, h2⟩ := HC.out (k + 1) hlt
        injection e with e
        injection e with e1 e2
        subst e1; subst e2
        exact h2
      obtain ⟨p0, p1⟩ := hp
      have p0 := (hb.cell (p := ⟨b, o + k * 2, none⟩) hbl).trans p0
      have p1 := (hb.cell (p := ⟨b, o + k * 2 + 1, none⟩) hbl).trans p1
      have q0 := (hb.cell (p := ⟨b, o + (k + 1) * 2, none⟩) hbl).trans q0
      have q1 := (hb.cell (p := ⟨b, o + (k + 1) * 2 + 1, none⟩) hbl).trans q1
      have hfin : k < l.length - 1 := by omega
      have Hs := Lib.hid (finRange_take2 hfin)
      have hgB : wr.grownBy wr.drew none := ⟨rfl, rfl, rfl, Nat.le_refl _, fun _ _ _ => rfl⟩
      have HJ2 := Lib.hid (HJA.out _ _ _ none hJ hgB (fun r e => by cases e))
      have HB2 := Lib.hid (show Boxed wr.drew Bs 69 (.slice (some ⟨b, o, none⟩) l.length c) from hB)
      have Hb2 := Lib.hid (show Below n₀ W wr.drew from hb.drew)
      have Hsz := Lib.hid hsz
      have hYk : YieldAt Fence.wide (n - 1) Tryz.prog y0 (prV l k) wr.drew _ := HY.out ((List.finRange (l.length - 1)).take k) ⟨k, hfin⟩ wr.drew HJ2.out (by simp; omega)
      have hpr : prV l k = #[.agg #[.int .i64 (l[k]'(by omega)).1, .int .i64 (l[k]'(by omega)).2], .agg #[.int .i64 l[k + 1].1, .int .i64 l[k + 1].2]] := by
        unfold prV ptV
        rw [pX_at (show k < l.length by omega), pX_at hlt]
      rw [hpr] at hYk
      have u0 : (0 : Int) ≤ (k : Int) := by omega
      have u1 : (k : Int) < (l.length : Int) := by omega
      have u2 : (k : Int) + 1 < (l.length : Int) := by omega
      have u3 : (0 : Int) ≤ (k : Int) + 1 := by omega
      have u4 : IntKind.i64.wrap ((k : Int) + 1 - 1) = (k : Int) := by rw [Int.add_sub_cancel]; exact IntWalk.i64_in _ (by omega)
      have u5 : IntKind.i64.wrap (k : Int) = (k : Int) := IntWalk.i64_in _ (by omega)
      clear hJ hB hb hgB hpr
      generalize (l[k]'(by omega)).1 = X at *
      generalize (l[k]'(by omega)).2 = Y at *
      generalize l[k + 1].1 = X2 at *
      generalize l[k + 1].2 = Y2 at *
      obtain ⟨fn, tmps, assign, body, hy, hRd⟩ := hYk
      gi_wp2
      refine wpIn_region_still_tailW 10 (by kernel_rfl) (by kernel_rfl) (by kernel_rfl) ?_
      simp only [List.take_succ_cons, List.take_zero, List.drop_succ_cons, List.drop_zero]
      refine Shut.out ?_
      repeat (refine hid_step (fun K hK => ?_); go_simp; refine hK _ ?_; clear hK K)
      refine hid_nil ?_
      change wpListIn _ _ _ _ _ _ _ wr.drew
      gi_wp2
      refine hRd.mono ?_
      clear hRd hy
      rintro e W3 (⟨rfl, hJ3, hk3⟩ | ⟨rfl, hJx3⟩)
      · gi_wp2
        go_roundw
        case rel =>
          have h3 := hk3.2 Bs _ HB2.out
          refine ⟨k + 1, .inl (by omega), by go_num, by rw [Hs.out]; exact hJ3, h3, Hb2.out.trans hk3.1, Nat.le_trans Hsz.out hk3.1.size⟩
        case measure => first | (simp [intOf]; omega) | simp [intOf]
      · gi_wp2
        refine bodyPost_ret (results_none rfl _ _ _) rfl ?_
        refine ⟨⟨_, rfl⟩, .inr ⟨_, ?_, hJx3⟩⟩
        rw [← Hs.out]
        exact List.take_prefix _ _
    · have e : (List.finRange (l.length - 1)).take k = List.finRange (l.length - 1) := List.take_of_length_le (by simp; omega)
      rw [e] at HJ
      have u2 : ¬ ((k : Int) + 1 < (l.length : Int)) := by omega
      have hc0 := hB.cell
      gi_wp2
      go_end0
      first | exact HJ.out | exact .inl HJ.out | exact ⟨⟨_, rfl⟩, .inl HJ.out⟩ | exact ⟨⟨_, rfl⟩, .inl ⟨_, rfl, HJ.out⟩⟩
set_option maxHeartbeats 1000000 in
theorem pairs_in (n : Nat) (A : Option Addr) (len c : Nat) (w : World) :
    CallsIn Fence.wide n Tryz.prog 127 #[.slice A len c] w fun e w' => e = .returned (.func (.func 184) #[] #[.pointer (some ⟨w.heap.size, 0, none⟩)]) ∧ w' = w.alloc (.cells #[.slice A len c] 69) := by
  refine callsIn_of_wp Tryz.func127 rfl trivial ?_ rfl
  simp only [Tryz.ntmps127, List.size_toArray, List.length_cons, List.length_nil, Nat.reduceAdd, Nat.reduceSub, Array.replicate_succ, Array.replicate_zero, List.push_toArray, List.append_toArray, List.nil_append, List.cons_append]
  gi_wp2
  go_ret
  exact ⟨rfl, rfl⟩
theorem pairs_stops (n : Nat) (hn : 1 ≤ n) (Bs n₀ : Nat) (A : Option Addr) (c : Nat) (l : List PT) (hlen : l.length ≤ 16) (w : World) (hn₀ : n₀ ≤ w.heap.size)
    (hBs : Boxed w Bs 69 (.slice A l.length c))
    (hcell : ∀ k (hk : k < l.length), ∃ b o, A = some ⟨b, o, none⟩ ∧ b < n₀ ∧ (w.cell? ⟨b, o + k * 2, none⟩ = some (.int .i64 l[k].1) ∧ w.cell? ⟨b, o + k * 2 + 1, none⟩ = some (.int .i64 l[k].2))) :
    SeqStopsK Fence.wide n Tryz.prog 184 #[.pointer (some ⟨Bs, 0, none⟩)] (fun x : Fin (l.length - 1) => prV l x) (KpR n₀ 69) (fun ys => ys = List.finRange (l.length - 1)) (fun pre => pre <+: List.finRange (l.length - 1)) (l.length - 1) w := fun y J Jx W hW hJ _ hY h0 =>
  pairs1_in n hn y Bs n₀ A c l hlen J Jx W hJ hY (Nat.le_trans hn₀ hW.size) ((hW.block Bs hBs.lt).trans hBs) (fun k hk => by
    obtain ⟨b, o, e, hb, h1⟩ := hcell k hk
    have hb' := Nat.lt_of_lt_of_le hb hn₀
    exact ⟨b, o, e, hb, pt_keep hb' h1 hW⟩) h0
end Go.Proofs.YtpinmgoeapakdaaGreatDoor

namespace Go.Proofs.YtpinmgoeapakdaaGreatDoor
open Go.RowKit Go.Shelf
attribute [local go_sem] Oper.semAt_some

def upL (l : List PT) (pre : List (Fin (l.length - 1))) : Bool := pre.foldl (fun u (x : Fin (l.length - 1)) => u && decide ((pX l x).2 < (pX l (x + 1)).2)) true
def dnL (l : List PT) (pre : List (Fin (l.length - 1))) : Bool := pre.foldl (fun u (x : Fin (l.length - 1)) => u && decide ((pX l (x + 1)).2 < (pX l x).2)) true
theorem upL_snoc (l : List PT) (pre : List (Fin (l.length - 1))) (x : Fin (l.length - 1)) : upL l (pre ++ [x]) = (upL l pre && decide ((pX l x).2 < (pX l (x + 1)).2)) := by unfold upL; rw [List.foldl_append]; rfl
theorem dnL_snoc (l : List PT) (pre : List (Fin (l.length - 1))) (x : Fin (l.length - 1)) : dnL l (pre ++ [x]) = (dnL l pre && decide ((pX l (x + 1)).2 < (pX l x).2)) := by unfold dnL; rw [List.foldl_append]; rfl
theorem upL_all (l : List PT) : upL l (List.finRange (l.length - 1)) = upY l ∧ dnL l (List.finRange (l.length - 1)) = downY l := by
  have h : ∀ k, k ≤ l.length - 1 → upL l ((List.finRange (l.length - 1)).take k) = upY (l.take (k + 1)) ∧ dnL l ((List.finRange (l.length - 1)).take k) = downY (l.take (k + 1)) := by
    intro k
    induction k with
    | zero => intro _; exact ⟨by rw [(up_one l).1]; rfl, by rw [(up_one l).2]; rfl⟩
    | succ k ih =>
      intro hk
      obtain ⟨a, b⟩ := ih (by omega)
      rw [finRange_take2 (show k < l.length - 1 by omega), upL_snoc, dnL_snoc, a, b, up_take (show k + 1 < l.length by omega), down_take (show k + 1 < l.length by omega)]
      simp only [pX_at (show k < l.length by omega), pX_at (show k + 1 < l.length by omega), and_self]
  have := h (l.length - 1) (Nat.le_refl _)
  rw [List.take_of_length_le (by simp), List.take_of_length_le (by omega)] at this
  exact this

def SlJ (w : World) (u d : Bool) (W : World) : Prop := (Boxed W w.heap.size 4 (.bool u) ∧ Boxed W (w.heap.size + 1) 4 (.bool d)) ∧ Below w.heap.size w W
theorem slj_own (l : List PT) (w : World) (B : Nat) (h : w.heap.size ≤ B) : OwnFrom B (fun (pre : List (Fin (l.length - 1))) W => SlJ w (upL l pre) (dnL l pre) W) :=
  OwnFrom.and (Own.from (fun (_ : List (Fin (l.length - 1))) _ _ _ hs hg hr => ⟨Boxed.own hs.1 hg hr, Boxed.own hs.2 hg hr⟩) _) (ownFrom_below (Nat.le_refl _) h)

def PAt (W : World) (P : Nat) (x y : Int) : Prop := W.heap[P]? = some (.cells #[.int .i64 x, .int .i64 y] 106 (0, 0))
theorem pat_own (P : Nat) (x y : Int) : Own (fun (_ : Unit) W => PAt W P x y) := fun _ _ _ _ hs hg hr => by
  refine (hg.block P (Array.getElem?_eq_some_iff.1 hs).1 fun e => ?_).trans hs
  obtain ⟨o, ho, hc⟩ := hr P e.symm
  rw [show _ = _ from hs] at ho
  cases ho
  simp [Obj.isCells] at hc
set_option maxRecDepth 100000 in
set_option maxHeartbeats 8000000 in
theorem cslope_any (A : Option Addr) (n c : Nat) (l : List PT) (w : World) (hl : shP.In w A n l) (h16 : l.length ≤ 16) :
    Calls Tryz.prog 70 #[.slice A n c] w fun e w' => e = .returned (.int .i64 (slC l)) ∧ Below w.heap.size w w' := by
  obtain ⟨rfl, _⟩ := id hl
  have HL := Lib.hid hl
  obtain ⟨E, hE⟩ : ∃ E, slC l = E := ⟨_, rfl⟩
  rw [hE]
  have HE := Lib.hid hE
  clear hE hl
  refine (callsIn_wide (n := 5)).1 ?_
  refine callsIn_of_wp_marks Tryz.func70 rfl trivial ?_ rfl
  simp only [Tryz.ntmps70, List.size_toArray, List.length_cons, List.length_nil, Nat.reduceAdd, Nat.reduceSub, Array.replicate_succ, Array.replicate_zero, List.push_toArray, List.append_toArray, List.nil_append, List.cons_append]
  gi_wp2_with (refine ⟨trivial, ?_⟩; gi_at_call 127; refine (pairs_in _ _ _ _ _).mono ?_; rintro e w' ⟨rfl, rfl⟩)
  have hcell : ∀ k (hk : k < l.length), ∃ b o, A = some ⟨b, o, none⟩ ∧ b < w.heap.size ∧ (w.cell? ⟨b, o + k * 2, none⟩ = some (.int .i64 l[k].1) ∧ w.cell? ⟨b, o + k * 2 + 1, none⟩ = some (.int .i64 l[k].2)) := fun k hk => by
    obtain ⟨b, o, e, hb, h⟩ := pt_at HL.out (by omega)
    exact ⟨b, o, e, hb, h k hk⟩
  have bU := Boxed.new w 4 (.bool true)
  have bD := Boxed.new (w.alloc (.cells #[.bool true] 4)) 4 (.bool true)
  have bN := Boxed.new ((w.alloc (.cells #[.bool true] 4)).alloc (.cells #[.bool true] 4)) 69 (.slice A l.length c)
  rw [World.size_alloc] at bD
  rw [World.size_alloc, World.size_alloc] at bN
  have hB1 : Below w.heap.size w (w.alloc (.cells #[.bool true] 4)) := (Below.refl _ w).alloc (Nat.le_refl _) _
  have hB2 := hB1.alloc hB1.size (.cells #[.bool true] 4)
  have hB3 := hB2.alloc hB2.size (.cells #[.slice A l.length c] 69)
  refine wpIn_rangeFunc_ownH rfl (by omega) (gf := 184) (lb := #[.pointer (some ⟨w.heap.size + 1 + 1, 0, none⟩)]) rfl trivial (enters_of Tryz.func184 (by kernel_rfl) rfl)
    (pairs_stops 4 (by omega) (w.heap.size + 1 + 1) w.heap.size A c l h16 _ hB3.size bN (fun k hk => by
      obtain ⟨b, o, e, hb, h⟩ := hcell k hk
      exact ⟨b, o, e, hb, pt_keep hb h hB3⟩)) KpR.t (KpR.b hB3.size) (Below.refl _ _) (fun _ => rfl)
    (fun pre W => SlJ w (upL l pre) (dnL l pre) W)
    (fun _ _ _ => False)
    (slj_own l w _ hB3.size)
    (fun _ _ _ _ _ hs _ _ => hs)
    ⟨⟨(bU.alloc _).alloc _, bD.alloc _⟩, hB3⟩
    (fun x a' W => ∃ P, a' = { tmps := #[.slice A l.length c, undef, .int .i64 0, .pointer (some ⟨w.heap.size, 0, none⟩), .pointer (some ⟨w.heap.size + 1, 0, none⟩), .pointer (some ⟨P, 0, none⟩), .pointer (some ⟨P + 1, 0, none⟩), .slice A l.length c, .func (.func 184) #[] #[.pointer (some ⟨w.heap.size + 1 + 1, 0, none⟩)], (.agg #[.int .i64 (pX l x).1, .int .i64 (pX l x).2]), (.agg #[.int .i64 (pX l (x + 1)).1, .int .i64 (pX l (x + 1)).2]), undef, undef, undef, undef, undef, undef, undef, undef, undef, undef, undef, undef, undef, undef, undef, undef, undef, undef, undef, undef], defers := [] } ∧ PAt W P (pX l x).1 (pX l x).2 ∧ PAt W (P + 1) (pX l (x + 1)).1 (pX l (x + 1)).2)
    ?own ?assign ?body ?done ?stop
  case own =>
    intro x a'
    exact Own.from (fun s A' B' row hs hg hr => hs.imp fun P h => ⟨h.1, pat_own P _ _ () A' B' row h.2.1 hg hr, pat_own (P + 1) _ _ () A' B' row h.2.2 hg hr⟩) _
  case assign =>
    intro lp pre x W K hI hK
    have hsz := hI.2.size
    have hI2 := fun o => (slj_own l w _ hB3.size).alloc o hI
    dsimp only [prV, ptV]
    gi_wp2
    have hk1 := (KpR.refl w.heap.size 69 W).alloc hsz (.cells #[.int .i64 (pX l x).1, .int .i64 (pX l x).2] 106)
    have hk2 := hk1.alloc (by simp; omega) (.cells #[.int .i64 (pX l (x + 1)).1, .int .i64 (pX l (x + 1)).2] 106)
    exact hK _ _ (((KeepsOthers.alloc W _).trans (KeepsOthers.alloc _ _)).from _) hk2 ((slj_own l w _ hB3.size).alloc _ (hI2 _)) ⟨W.heap.size, rfl, by
      have h1 := World.alloc_heap_new W (.cells #[.int .i64 (pX l x).1, .int .i64 (pX l x).2] 106)
      show (World.alloc _ _).heap[W.heap.size]? = _
      rw [Below.heap_alloc _ _ _ (by simp)]
      exact h1, by
      have h1 := World.alloc_heap_new (W.alloc (.cells #[.int .i64 (pX l x).1, .int .i64 (pX l x).2] 106)) (.cells #[.int .i64 (pX l (x + 1)).1, .int .i64 (pX l (x + 1)).2] 106)
      rw [World.size_alloc] at h1
      exact h1⟩
  case body =>
    rintro lp pre x a' W hlp hrec ⟨⟨hu, hd⟩, hB⟩ ⟨P, rfl, hP, hQ⟩ hlt
    have HU := Lib.hid (upL_snoc l pre x)
    have HD := Lib.hid (dnL_snoc l pre x)
    generalize (pX l x).1 = X at *
    generalize (pX l x).2 = Y at *
    generalize (pX l (x + 1)).1 = X2 at *
    generalize (pX l (x + 1)).2 = Y2 at *
    generalize upL l pre = u at *
    generalize dnL l pre = d at *
    have cU := hu.cell
    have cD := hd.cell
    have fU := hu.frozen
    have fD := hd.frozen
    have p1 : W.cell? ⟨P, 1, none⟩ = some (.int .i64 Y) := cell_of_row W _ 1 _ _ _ hP
    have q1 : W.cell? ⟨P + 1, 1, none⟩ = some (.int .i64 Y2) := cell_of_row W _ 1 _ _ _ hQ
    cases u <;> cases d
    all_goals
      gi_wp2
      refine ⟨((KeepsOthers.setCell W _ _).trans (KeepsOthers.setCell _ _ _)).from _, ((KpR.refl w.heap.size 69 W).set hu (by decide) (Nat.le_refl _) _).set (hd.other (by omega) _) (by decide) (Nat.le_succ _) _, ?_⟩
      show SlJ w (upL l (pre ++ [x])) (dnL l (pre ++ [x])) _
      rw [HU.out, HD.out]
      exact ⟨⟨(hu.set _).other (by omega) _, (hd.other (by omega) _).set _⟩, (hB.setCell (p := ⟨w.heap.size, 0, none⟩) (Nat.le_refl _) _).setCell (p := ⟨w.heap.size + 1, 0, none⟩) (Nat.le_succ _) _⟩
  case done =>
    rintro D ys W hD rfl ⟨⟨hu, hd⟩, hB⟩ hK
    rw [(upL_all l).1] at hu
    rw [(upL_all l).2] at hd
    have hE : (if upY l then (1 : Int) else if downY l then -1 else 0) = E := HE.out
    generalize upY l = u at *
    generalize downY l = d at *
    have cU := hu.cell
    have cD := hd.cell
    have hBB := Lib.hid (hB.trans (belowK_b (w := w) (Nat.le_refl _) W D _ (.deferred none) (by simp at hD; omega) hK rfl rfl))
    cases u <;> cases d <;> simp only [if_true, if_false, Bool.false_eq_true] at hE <;> subst hE
    all_goals
      gi_wp2
      refine ⟨by simp, .inl ⟨_, _, rfl, run_takeDeferred hK, ?_⟩⟩
      refine ⟨_, results_tmp rfl _ _ _, ?_⟩
      exact ⟨rfl, hBB.out⟩
  case stop =>
    rintro D c pre W _ _ h _
    exact h.elim
end Go.Proofs.YtpinmgoeapakdaaGreatDoor

namespace Go.Proofs.YtpinmgoeapakdaaGreatDoor
open Go.RowKit

theorem cSlope_any (A : Option Addr) (n c : Nat) (l : List PT) (w : World) (hl : shP.In w A n l) (hn : n ≤ 9223372036854775806) :
    Calls Tryz.prog 31 #[.slice A n c] w fun e w' => e = .returned (.tuple #[.int .i64 (slopeT l), .int .i64 (chkC l)]) ∧ Below w.heap.size w w' := by
  have hB := Below.refl w.heap.size w
  have HC := Lib.hid (fun w hl => ccheck_any A n c l w hl (by omega))
  have HL := Lib.hid hl
  have hV : slopeT l = if chkC l ≠ 0 then 0 else slC l := rfl
  by_cases h1 : chkC l = 0
  · have hok := chkC_ok.1 h1
    have HS := Lib.hid (fun w hl => cslope_any A n c l w hl hok.few)
    rw [if_neg (by simpa using h1)] at hV
    rw [h1] at HC ⊢
    rw [hV]
    generalize slC l = sl at *
    clear hV h1 hl hok
    go_enter Tryz.func31, Tryz.ntmps31
    go_wp2_with (first | (go_at_call 69; with_reducible refine (HC.out _ (HL.out.below hB)).mono ?_; rintro e wk ⟨rfl, hb⟩; replace hB := hB.trans (hb.mono hB.size); clear hb) | (go_at_call 70; with_reducible refine (HS.out _ (HL.out.below hB)).mono ?_; rintro e wk ⟨rfl, hb⟩; replace hB := hB.trans (hb.mono hB.size); clear hb))
    go_ret2
    exact ⟨rfl, hB⟩
  · rw [if_pos h1] at hV
    rw [hV]
    generalize chkC l = k at *
    have g1 : (k == 0) = false := by simpa using h1
    have g2 : (k != 0) = true := by simpa using h1
    clear hV h1 hl
    go_enter Tryz.func31, Tryz.ntmps31
    go_wp2_with (go_at_call 69; with_reducible refine (HC.out _ (HL.out.below hB)).mono ?_; rintro e wk ⟨rfl, hb⟩; replace hB := hB.trans (hb.mono hB.size); clear hb)
    go_ret2
    exact ⟨rfl, hB⟩
theorem vs_set : ∀ (l : List PT) (k : Nat) (_ : k < l.length) (x y : Int), ((shP.vs l).set (k * 2) (.int .i64 x)).set (k * 2 + 1) (.int .i64 y) = shP.vs (l.set k (x, y))
  | a :: t, 0, _, x, y => rfl
  | a :: t, k + 1, h, x, y => by
    have ih := vs_set t k (by simpa using h) x y
    show ((Value.int .i64 a.1 :: .int .i64 a.2 :: shP.vs t).set ((k + 1) * 2) _).set ((k + 1) * 2 + 1) _ = .int .i64 a.1 :: .int .i64 a.2 :: shP.vs (t.set k (x, y))
    rw [show (k + 1) * 2 = k * 2 + 1 + 1 by omega]
    simp only [List.set_cons_succ]
    rw [ih]
end Go.Proofs.YtpinmgoeapakdaaGreatDoor

namespace Go.Proofs.YtpinmgoeapakdaaGreatDoor
open Go.RowKit

theorem inv_cases {l : List PT} (h : OkC l) (hp0 : 0 < l.length) (hp1 : l.length - 1 < l.length) :
    (slC l = 0 ∧ errI l = 16 ∧ invT l = []) ∨
    (slC l = 1 ∧ ((l[0].2 = 0 ∧ l[l.length - 1].2 = 65535 ∧ errI l = 0 ∧ invT l = l.map swapP) ∨ (¬ (l[0].2 = 0 ∧ l[l.length - 1].2 = 65535) ∧ errI l = 16 ∧ invT l = []))) ∨
    (slC l = -1 ∧ ((l[l.length - 1].2 = 0 ∧ l[0].2 = 65535 ∧ errI l = 0 ∧ invT l = (l.map swapP).reverse) ∨ (¬ (l[l.length - 1].2 = 0 ∧ l[0].2 = 65535) ∧ errI l = 16 ∧ invT l = []))) := by
  have h2 := h.two
  have h0 : chkC l = 0 := chkC_ok.2 h
  have hw := wholeYB h2
  have e0 : errI l = if slC l = 0 ∨ ¬ wholeC l then 16 else 0 := by unfold errI; rw [h0, if_neg (by decide)]
  have e1 : invT l = if errI l ≠ 0 then [] else turnC l := rfl
  have hup : ∀ (k : Nat) (hk : k < l.length), upY l = true → 0 < k → l[0].2 < l[k].2 := fun k => by
    induction k with
    | zero => intro _ _ h; omega
    | succ k ih =>
      intro hk hu _
      have h3 := upY_step hk hu
      by_cases hk0 : k = 0
      · subst hk0; exact h3
      · exact Int.lt_trans (ih (by omega) hu (by omega)) h3
  have hdn : ∀ (k : Nat) (hk : k < l.length), downY l = true → 0 < k → l[k].2 < l[0].2 := fun k => by
    induction k with
    | zero => intro _ _ h; omega
    | succ k ih =>
      intro hk hu _
      have h3 := downY_step hk hu
      by_cases hk0 : k = 0
      · subst hk0; exact h3
      · exact Int.lt_trans h3 (ih (by omega) hu (by omega))
  rcases slC_cases l with ⟨hs, hu⟩ | ⟨hs, hd⟩ | hs
  · refine .inr (.inl ⟨hs, ?_⟩)
    have hlt := hup (l.length - 1) hp1 hu (by omega)
    have et : turnC l = l.map swapP := by unfold turnC; rw [if_neg (by omega)]
    by_cases hq : l[0].2 = 0 ∧ l[l.length - 1].2 = 65535
    · have e2 : errI l = 0 := by rw [e0, if_neg (by rintro (h | h); omega; exact h (hw.2 (.inl hq)))]
      exact .inl ⟨hq.1, hq.2, e2, by rw [e1, e2, if_neg (by decide), et]⟩
    · have e2 : errI l = 16 := by
        rw [e0, if_pos (.inr fun h => by
          rcases hw.1 h with h | h
          · exact hq h
          · omega)]
      exact .inr ⟨hq, e2, by rw [e1, e2, if_pos (by decide)]⟩
  · refine .inr (.inr ⟨hs, ?_⟩)
    have hlt := hdn (l.length - 1) hp1 hd (by omega)
    have et : turnC l = (l.map swapP).reverse := by unfold turnC; rw [if_pos (by omega)]
    by_cases hq : l[l.length - 1].2 = 0 ∧ l[0].2 = 65535
    · have e2 : errI l = 0 := by rw [e0, if_neg (by rintro (h | h); omega; exact h (hw.2 (.inr ⟨hq.2, hq.1⟩)))]
      exact .inl ⟨hq.1, hq.2, e2, by rw [e1, e2, if_neg (by decide), et]⟩
    · have e2 : errI l = 16 := by
        rw [e0, if_pos (.inr fun h => by
          rcases hw.1 h with h | h
          · omega
          · exact hq ⟨h.2, h.1⟩)]
      exact .inr ⟨hq, e2, by rw [e1, e2, if_pos (by decide)]⟩
  · have e2 : errI l = 16 := by rw [e0, if_pos (.inl hs)]
    exact .inl ⟨hs, e2, by rw [e1, e2, if_pos (by decide)]⟩
end Go.Proofs.YtpinmgoeapakdaaGreatDoor

namespace Go.Proofs.YtpinmgoeapakdaaGreatDoor
open Go.RowKit

theorem num_text (z : Int) (b : ByteArray) (h : b.data.toList = Lib.itoa z) : sR ((z : Int) : Rat) = b := (sR_of (by rw [h]; unfold rT; rw [Rat.den_intCast, if_pos rfl, Rat.num_intCast])).symm
theorem digs5 (z : Int) (h0 : 10000 ≤ z) (h1 : z < 100000) : Lib.itoa z = [dg1 (z.natAbs / 10 / 10 / 10 / 10), dg1 (z.natAbs / 10 / 10 / 10 % 10), dg1 (z.natAbs / 10 / 10 % 10), dg1 (z.natAbs / 10 % 10), dg1 (z.natAbs % 10)] := by rw [itoa_pos' (by omega), dec_big (by omega), dec_big (by omega), dec_big (by omega), dec_big (by omega), dec_small (by omega)]; rfl
theorem n10000 : sR ((10000 : Int) : Rat) = ⟨#[49, 48, 48, 48, 48]⟩ := num_text _ _ (by rw [digs5 10000 (by decide) (by decide)]; rfl)
theorem n20000 : sR ((20000 : Int) : Rat) = ⟨#[50, 48, 48, 48, 48]⟩ := num_text _ _ (by rw [digs5 20000 (by decide) (by decide)]; rfl)
theorem n30000 : sR ((30000 : Int) : Rat) = ⟨#[51, 48, 48, 48, 48]⟩ := num_text _ _ (by rw [digs5 30000 (by decide) (by decide)]; rfl)
theorem n60000 : sR ((60000 : Int) : Rat) = ⟨#[54, 48, 48, 48, 48]⟩ := num_text _ _ (by rw [digs5 60000 (by decide) (by decide)]; rfl)
theorem n1 : sR ((1 : Int) : Rat) = ⟨#[49]⟩ := num_text _ _ (by rw [itoa_one])

def thirdR : Rat := mkRat 1 3
theorem third_bytes : sR thirdR = ⟨#[49, 47, 51]⟩ := (sR_of (by
  show [49, 47, 51] = rT thirdR
  have h1 : thirdR.den = 3 := by decide +kernel
  have h2 : thirdR.num = 1 := by decide +kernel
  unfold rT
  rw [h1, h2, if_neg (by decide), itoa_one, dec_small (by decide)]
  rfl)).symm
theorem third_sz : SzR 1 thirdR := by
  have h1 : thirdR.den = 3 := by decide +kernel
  have h2 : thirdR.num = 1 := by decide +kernel
  unfold SzR
  rw [h1, h2]
  decide
def exC : List PT := [(0, 0), (20000, 60000), (65535, 65535)]
def exD : List PT := [(0, 0), (100, 0), (65535, 65535)]
def exE : List PT := [(0, 0), (10, 20), (20, 40), (65535, 40)]
def exI : List PT := [(0, 0), (60000, 20000), (65535, 65535)]
def exT : List PT := [(0, 0), (20, 40), (65535, 40)]
theorem exC_ok : chkC exC = 0 := by decide
theorem ex_at {k : Nat} {r : Rat} (hz : SzR k r) (hk : k ≤ 100) (hi : InL r) (c : List PT) (hc : chkC c = 0) : errC c (sR r) = 0 ∧ atC c (sR r) = sR (valC c r) := by
  have hv : valR (sR r).data.toList = r := by rw [sR_list, valR_rT]
  have he : errLv (sR r).data.toList = 0 := by
    unfold errLv
    rw [sR_list, chkR_fit (hz.fit (by omega)), if_neg (by decide), valR_rT, if_pos hi]
  have e : errC c (sR r) = 0 := by unfold errC; rw [hc, if_neg (by decide), he]
  exact ⟨e, by unfold atC; rw [e, if_neg (by decide), hv]⟩
theorem inL_z {z : Int} (h0 : 0 ≤ z) (h1 : z ≤ 65535) : InL ((z : Int) : Rat) := ⟨cast_le.2 h0, cast_le.2 h1⟩
theorem third_in : InL thirdR := ⟨by decide +kernel, by decide +kernel⟩
theorem at_ex {r s : Rat} {x y : ByteArray} (hx : sR r = x) (hy : sR s = y) {k : Nat} (hz : SzR k r) (hk : k ≤ 100) (hi : InL r) (hv : valC exC r = s) (A : Option Addr) (c : Nat) (w : World) (hl : shP.In w A 3 exC) (ht : Tab w) :
    Calls Tryz.prog 45 #[.slice A 3 c, .string x] w fun e w' => e = .returned (.tuple #[.string y, .int .i64 0]) ∧ Below w.heap.size w w' := by
  have := cat_any A 3 c exC (sR r) w hl (by decide) (Nat.le_trans hz.len (by omega)) ht
  obtain ⟨e1, e2⟩ := ex_at hz hk hi exC exC_ok
  rw [e1, e2, hv, hx, hy] at this
  exact this
theorem exC_in (w : World) (t : TypeId) (b : Nat) (hb : b = w.heap.size) : shP.In (w.alloc (.cells #[.int .i64 0, .int .i64 0, .int .i64 20000, .int .i64 60000, .int .i64 65535, .int .i64 65535] t)) (some ⟨b, 0, none⟩) 3 exC := Sh.In.fresh (S := shP) w exC t b hb
theorem exD_in (w : World) (t : TypeId) (b : Nat) (hb : b = w.heap.size) : shP.In (w.alloc (.cells #[.int .i64 0, .int .i64 0, .int .i64 100, .int .i64 0, .int .i64 65535, .int .i64 65535] t)) (some ⟨b, 0, none⟩) 3 exD := Sh.In.fresh (S := shP) w exD t b hb
theorem exE_in (w : World) (t : TypeId) (b : Nat) (hb : b = w.heap.size) : shP.In (w.alloc (.cells #[.int .i64 0, .int .i64 0, .int .i64 10, .int .i64 20, .int .i64 20, .int .i64 40, .int .i64 65535, .int .i64 40] t)) (some ⟨b, 0, none⟩) 4 exE := Sh.In.fresh (S := shP) w exE t b hb
theorem exI_in (w : World) (t : TypeId) (b : Nat) (hb : b = w.heap.size) : shP.In (w.alloc (.cells #[.int .i64 0, .int .i64 0, .int .i64 60000, .int .i64 20000, .int .i64 65535, .int .i64 65535] t)) (some ⟨b, 0, none⟩) 3 exI := Sh.In.fresh (S := shP) w exI t b hb
theorem exT_in (w : World) (t : TypeId) (b : Nat) (hb : b = w.heap.size) : shP.In (w.alloc (.cells #[.int .i64 0, .int .i64 0, .int .i64 20, .int .i64 40, .int .i64 65535, .int .i64 40] t)) (some ⟨b, 0, none⟩) 3 exT := Sh.In.fresh (S := shP) w exT t b hb
end Go.Proofs.YtpinmgoeapakdaaGreatDoor
