/- Lemmas and contracts of functions, joined for the claim: CIter, CSlope, CInv, CInv2, CAwake. -/
import Derived.Test.YtfehefafgghopaaGreatDoorGCurveB
import Derived.Test.YtfehefafgghopaaGreatDoorGProgA
import Derived.Test.YtfehefafgghopaaGreatDoorGWord
import Derived.StillTailTactics
import Derived.Laws.EntriesVeiled
namespace Go.Proofs.YtfehefafgghopaaGreatDoor
open Go.RowKit Go.Shelf
attribute [local go_sem] Oper.semAt_some

theorem finRange_take2 {n k : Nat} (h : k < n) : (List.finRange n).take (k + 1) = (List.finRange n).take k ++ [⟨k, h⟩] := by
  rw [List.take_succ_eq_append_getElem (by simpa using h)]
  simp
def ptV (q : PT) : Value := .agg #[.int .i64 q.1, .int .i64 q.2]

def pX (l : List PT) (k : Nat) : PT := l.getD k (0, 0)
theorem pX_at {l : List PT} {k : Nat} (h : k < l.length) : pX l k = l[k] := getD_pt h

def prV (l : List PT) (k : Nat) : Array Value := #[ptV (pX l k), ptV (pX l (k + 1))]
set_option maxRecDepth 100000 in
set_option maxHeartbeats 8000000 in
theorem pairs1_in (n : Nat) (hn : 1 ≤ n) (y0 Bs n₀ : Nat) (A : Option Addr) (c : Nat) (l : List PT) (hlen : l.length ≤ 16) (J Jx : List (Fin (l.length - 1)) → World → Prop)
    (W : World) (hJa : AbidesFrom W.heap.size J)
    (hY : ∀ pre (x : Fin (l.length - 1)) W, J pre W → pre.length < l.length - 1 → YieldAt Fence.wide (n - 1) Tryz.prog y0 (prV l x) W fun e W' =>
      (e = .returned (.bool true) ∧ J (pre ++ [x]) W' ∧ KpR n₀ 22 W W') ∨ (e = .returned (.bool false) ∧ Jx (pre ++ [x]) W'))
    (_ : n₀ ≤ W.heap.size) (hBs : Boxed W Bs 22 (.slice A l.length c))
    (hcell : ∀ k (hk : k < l.length), ∃ b o, A = some ⟨b, o, none⟩ ∧ b < n₀ ∧ (W.cell? ⟨b, o + k * 2, none⟩ = some (.int .i64 l[k].1) ∧ W.cell? ⟨b, o + k * 2 + 1, none⟩ = some (.int .i64 l[k].2))) (h0 : J [] W) :
    CallsIn Fence.wide n Tryz.prog 101 #[.func (.yield y0) #[] #[], .pointer (some ⟨Bs, 0, none⟩)] W fun e W' => (∃ v, e = .returned v) ∧
      ((∃ ys, ys = List.finRange (l.length - 1) ∧ J ys W') ∨ (∃ pre, pre <+: List.finRange (l.length - 1) ∧ Jx pre W')) := by
  have HC := Lib.hid hcell
  have HY := Lib.hid hY
  have HJA := Lib.hid hJa
  clear hcell hY hJa
  have hc0 := hBs.cell
  refine callsIn_of_wp Tryz.func101 rfl trivial ?_ rfl
  simp only [Tryz.ntmps101, List.size_toArray, List.length_cons, List.length_nil, Nat.reduceAdd, Nat.reduceSub, Array.replicate_succ, Array.replicate_zero, List.push_toArray, List.append_toArray, List.nil_append, List.cons_append]
  gi_wp2
  gi_loopw [3] (fun i wr => ∃ k : Nat, (k + 1 ≤ l.length ∨ k = 0) ∧ i = .int .i64 ((k + 1 : Nat) : Int) ∧ J ((List.finRange (l.length - 1)).take k) wr ∧ Boxed wr Bs 22 (.slice A l.length c) ∧ Below n₀ W wr ∧ W.heap.size ≤ wr.heap.size) (fun i _ => l.length - (intOf i).toNat)
  case atStart => exact ⟨0, .inr rfl, rfl, by simpa using h0, hBs, Below.refl _ _, Nat.le_refl _⟩
  case round =>
    clear hc0
    obtain ⟨k, hk, rfl, hJ, hB, hb, hsz⟩ := hrel
    have HB := Lib.hid hB
    have HJ := Lib.hid hJ
    have Hb := Lib.hid hb
    by_cases hlt : k + 1 < l.length
    · have hc0 := hB.cell
      obtain ⟨b, o, rfl, hbl, hp⟩ := HC.out k (by omega)
      obtain ⟨q0, q1⟩ : W.cell? ⟨b, o + (k + 1) * 2, none⟩ = some (.int .i64 l[k + 1].1) ∧ W.cell? ⟨b, o + (k + 1) * 2 + 1, none⟩ = some (.int .i64 l[k + 1].2) := by
        obtain ⟨b', o', e, _, h2⟩ := HC.out (k + 1) hlt
        injection e with e
        injection e with e1 e2
        subst e1; subst e2
        exact h2
      obtain ⟨p0, p1⟩ := hp
      have p0 := (hb.cell (p := ⟨b, o + k * 2, none⟩) hbl).trans p0
      have p1 := (hb.cell (p := ⟨b, o + k * 2 + 1, none⟩) hbl).trans p1
      have q0 := (hb.cell (p := ⟨b, o + (k + 1) * 2, none⟩) hbl).trans q0
      have q1 := (hb.cell (p := ⟨b, o + (k + 1) * 2 + 1, none⟩) hbl).trans q1
      have hfin : k < l.length - 1 := by omega
      have Hs := Lib.hid (finRange_take2 hfin)
      have hgB : wr.grownBy wr.drew none := ⟨rfl, rfl, rfl, Nat.le_refl _, fun _ _ _ => rfl⟩
      have HJ2 := Lib.hid (HJA.out _ _ _ none hJ hgB (fun r e => by cases e))
      have HB2 := Lib.hid (show Boxed wr.drew Bs 22 (.slice (some ⟨b, o, none⟩) l.length c) from hB)
      have Hb2 := Lib.hid (show Below n₀ W wr.drew from hb.drew)
      have Hsz := Lib.hid hsz
      have hYk : YieldAt Fence.wide (n - 1) Tryz.prog y0 (prV l k) wr.drew _ := HY.out ((List.finRange (l.length - 1)).take k) ⟨k, hfin⟩ wr.drew HJ2.out (by simp; omega)
      have hpr : prV l k = #[.agg #[.int .i64 (l[k]'(by omega)).1, .int .i64 (l[k]'(by omega)).2], .agg #[.int .i64 l[k + 1].1, .int .i64 l[k + 1].2]] := by
        unfold prV ptV
        rw [pX_at (show k < l.length by omega), pX_at hlt]
      rw [hpr] at hYk
      have u0 : (0 : Int) ≤ (k : Int) := by omega
      have u1 : (k : Int) < (l.length : Int) := by omega
      have u2 : (k : Int) + 1 < (l.length : Int) := by omega
      have u3 : (0 : Int) ≤ (k : Int) + 1 := by omega
      have u4 : IntKind.i64.wrap ((k : Int) + 1 - 1) = (k : Int) := by rw [Int.add_sub_cancel]; exact IntWalk.i64_in _ (by omega)
      have u5 : IntKind.i64.wrap (k : Int) = (k : Int) := IntWalk.i64_in _ (by omega)
      clear hJ hB hb hgB hpr
      generalize (l[k]'(by omega)).1 = X at *
      generalize (l[k]'(by omega)).2 = Y at *
      generalize l[k + 1].1 = X2 at *
      generalize l[k + 1].2 = Y2 at *
      obtain ⟨fn, tmps, assign, body, hy, hRd⟩ := hYk
      gi_wp2
      refine wpIn_region_still_tailW 10 (by kernel_rfl) (by kernel_rfl) (by kernel_rfl) ?_
      simp only [List.take_succ_cons, List.take_zero, List.drop_succ_cons, List.drop_zero]
      refine Shut.out ?_
      repeat (refine hid_step (fun K hK => ?_); go_simp; refine hK _ ?_; clear hK K)
      refine hid_nil ?_
      change wpListIn _ _ _ _ _ _ _ wr.drew
      gi_wp2
      refine hRd.mono ?_
      clear hRd hy
      rintro e W3 (⟨rfl, hJ3, hk3⟩ | ⟨rfl, hJx3⟩)
      · gi_wp2
        go_roundw
        case rel =>
          have h3 := hk3.2 Bs _ HB2.out
          refine ⟨k + 1, .inl (by omega), by go_num, by rw [Hs.out]; exact hJ3, h3, Hb2.out.trans hk3.1, Nat.le_trans Hsz.out hk3.1.size⟩
        case measure => first | (simp [intOf]; omega) | simp [intOf]
      · gi_wp2
        refine bodyPost_ret (results_none rfl _ _ _) rfl ?_
        refine ⟨⟨_, rfl⟩, .inr ⟨_, ?_, hJx3⟩⟩
        rw [← Hs.out]
        exact List.take_prefix _ _
    · have e : (List.finRange (l.length - 1)).take k = List.finRange (l.length - 1) := List.take_of_length_le (by simp; omega)
      rw [e] at HJ
      have u2 : ¬ ((k : Int) + 1 < (l.length : Int)) := by omega
      have hc0 := hB.cell
      gi_wp2
      go_end0
      first | exact HJ.out | exact .inl HJ.out | exact ⟨⟨_, rfl⟩, .inl HJ.out⟩ | exact ⟨⟨_, rfl⟩, .inl ⟨_, rfl, HJ.out⟩⟩
set_option maxHeartbeats 1000000 in
theorem pairs_in (n : Nat) (A : Option Addr) (len c : Nat) (w : World) :
    CallsIn Fence.wide n Tryz.prog 78 #[.slice A len c] w fun e w' => e = .returned (.func (.func 101) #[] #[.pointer (some ⟨w.heap.size, 0, none⟩)]) ∧ w' = w.alloc (.cells #[.slice A len c] 22) := by
  refine callsIn_of_wp Tryz.func78 rfl trivial ?_ rfl
  simp only [Tryz.ntmps78, List.size_toArray, List.length_cons, List.length_nil, Nat.reduceAdd, Nat.reduceSub, Array.replicate_succ, Array.replicate_zero, List.push_toArray, List.append_toArray, List.nil_append, List.cons_append]
  gi_wp2
  go_ret
  exact ⟨rfl, rfl⟩
theorem pairs_stops (n : Nat) (hn : 1 ≤ n) (Bs n₀ : Nat) (A : Option Addr) (c : Nat) (l : List PT) (hlen : l.length ≤ 16) (w : World) (hn₀ : n₀ ≤ w.heap.size)
    (hBs : Boxed w Bs 22 (.slice A l.length c))
    (hcell : ∀ k (hk : k < l.length), ∃ b o, A = some ⟨b, o, none⟩ ∧ b < n₀ ∧ (w.cell? ⟨b, o + k * 2, none⟩ = some (.int .i64 l[k].1) ∧ w.cell? ⟨b, o + k * 2 + 1, none⟩ = some (.int .i64 l[k].2))) :
    SeqStopsK Fence.wide n Tryz.prog 101 #[.pointer (some ⟨Bs, 0, none⟩)] (fun x : Fin (l.length - 1) => prV l x) (KpR n₀ 22) (fun ys => ys = List.finRange (l.length - 1)) (fun pre => pre <+: List.finRange (l.length - 1)) (l.length - 1) w := fun y J Jx W hW hJ _ hY h0 =>
  pairs1_in n hn y Bs n₀ A c l hlen J Jx W hJ hY (Nat.le_trans hn₀ hW.size) ((hW.block Bs hBs.lt).trans hBs) (fun k hk => by
    obtain ⟨b, o, e, hb, h1⟩ := hcell k hk
    have hb' := Nat.lt_of_lt_of_le hb hn₀
    exact ⟨b, o, e, hb, pt_keep hb' h1 hW⟩) h0
end Go.Proofs.YtfehefafgghopaaGreatDoor

namespace Go.Proofs.YtfehefafgghopaaGreatDoor
open Go.RowKit Go.Shelf
attribute [local go_sem] Oper.semAt_some

def upL (l : List PT) (pre : List (Fin (l.length - 1))) : Bool := pre.foldl (fun u (x : Fin (l.length - 1)) => u && decide ((pX l x).2 < (pX l (x + 1)).2)) true
def dnL (l : List PT) (pre : List (Fin (l.length - 1))) : Bool := pre.foldl (fun u (x : Fin (l.length - 1)) => u && decide ((pX l (x + 1)).2 < (pX l x).2)) true
theorem upL_snoc (l : List PT) (pre : List (Fin (l.length - 1))) (x : Fin (l.length - 1)) : upL l (pre ++ [x]) = (upL l pre && decide ((pX l x).2 < (pX l (x + 1)).2)) := by unfold upL; rw [List.foldl_append]; rfl
theorem dnL_snoc (l : List PT) (pre : List (Fin (l.length - 1))) (x : Fin (l.length - 1)) : dnL l (pre ++ [x]) = (dnL l pre && decide ((pX l (x + 1)).2 < (pX l x).2)) := by unfold dnL; rw [List.foldl_append]; rfl
theorem upL_all (l : List PT) : upL l (List.finRange (l.length - 1)) = upY l ∧ dnL l (List.finRange (l.length - 1)) = downY l := by
  have h : ∀ k, k ≤ l.length - 1 → upL l ((List.finRange (l.length - 1)).take k) = upY (l.take (k + 1)) ∧ dnL l ((List.finRange (l.length - 1)).take k) = downY (l.take (k + 1)) := by
    intro k
    induction k with
    | zero => intro _; exact ⟨by rw [(up_one l).1]; rfl, by rw [(up_one l).2]; rfl⟩
    | succ k ih =>
      intro hk
      obtain ⟨a, b⟩ := ih (by omega)
      rw [finRange_take2 (show k < l.length - 1 by omega), upL_snoc, dnL_snoc, a, b, up_take (show k + 1 < l.length by omega), down_take (show k + 1 < l.length by omega)]
      simp only [pX_at (show k < l.length by omega), pX_at (show k + 1 < l.length by omega), and_self]
  have := h (l.length - 1) (Nat.le_refl _)
  rw [List.take_of_length_le (by simp), List.take_of_length_le (by omega)] at this
  exact this

def SlJ (w : World) (u d : Bool) (W : World) : Prop := (Boxed W w.heap.size 4 (.bool u) ∧ Boxed W (w.heap.size + 1) 4 (.bool d)) ∧ Below w.heap.size w W
theorem slj_own (l : List PT) (w : World) (B : Nat) (h : w.heap.size ≤ B) : OwnFrom B (fun (pre : List (Fin (l.length - 1))) W => SlJ w (upL l pre) (dnL l pre) W) :=
  OwnFrom.and (Own.from (fun (_ : List (Fin (l.length - 1))) _ _ _ hs hg hr => ⟨Boxed.own hs.1 hg hr, Boxed.own hs.2 hg hr⟩) _) (ownFrom_below (Nat.le_refl _) h)

def PAt (W : World) (P : Nat) (x y : Int) : Prop := W.heap[P]? = some (.cells #[.int .i64 x, .int .i64 y] 31 (0, 0))
theorem pat_own (P : Nat) (x y : Int) : Own (fun (_ : Unit) W => PAt W P x y) := fun _ _ _ _ hs hg hr => by
  refine (hg.block P (Array.getElem?_eq_some_iff.1 hs).1 fun e => ?_).trans hs
  obtain ⟨o, ho, hc⟩ := hr P e.symm
  rw [show _ = _ from hs] at ho
  cases ho
  simp [Obj.isCells] at hc
set_option maxRecDepth 100000 in
set_option maxHeartbeats 8000000 in
theorem cslope_any (A : Option Addr) (n c : Nat) (l : List PT) (w : World) (hl : shP.In w A n l) (h16 : l.length ≤ 16) :
    Calls Tryz.prog 52 #[.slice A n c] w fun e w' => e = .returned (.int .i64 (slC l)) ∧ Below w.heap.size w w' := by
  obtain ⟨rfl, _⟩ := id hl
  have HL := Lib.hid hl
  obtain ⟨E, hE⟩ : ∃ E, slC l = E := ⟨_, rfl⟩
  rw [hE]
  have HE := Lib.hid hE
  clear hE hl
  refine (callsIn_wide (n := 5)).1 ?_
  refine callsIn_of_wp_marks Tryz.func52 rfl trivial ?_ rfl
  simp only [Tryz.ntmps52, List.size_toArray, List.length_cons, List.length_nil, Nat.reduceAdd, Nat.reduceSub, Array.replicate_succ, Array.replicate_zero, List.push_toArray, List.append_toArray, List.nil_append, List.cons_append]
  gi_wp2_with (refine ⟨trivial, ?_⟩; gi_at_call 78; refine (pairs_in _ _ _ _ _).mono ?_; rintro e w' ⟨rfl, rfl⟩)
  have hcell : ∀ k (hk : k < l.length), ∃ b o, A = some ⟨b, o, none⟩ ∧ b < w.heap.size ∧ (w.cell? ⟨b, o + k * 2, none⟩ = some (.int .i64 l[k].1) ∧ w.cell? ⟨b, o + k * 2 + 1, none⟩ = some (.int .i64 l[k].2)) := fun k hk => by
    obtain ⟨b, o, e, hb, h⟩ := pt_at HL.out (by omega)
    exact ⟨b, o, e, hb, h k hk⟩
  have bU := Boxed.new w 4 (.bool true)
  have bD := Boxed.new (w.alloc (.cells #[.bool true] 4)) 4 (.bool true)
  have bN := Boxed.new ((w.alloc (.cells #[.bool true] 4)).alloc (.cells #[.bool true] 4)) 22 (.slice A l.length c)
  rw [World.size_alloc] at bD
  rw [World.size_alloc, World.size_alloc] at bN
  have hB1 : Below w.heap.size w (w.alloc (.cells #[.bool true] 4)) := (Below.refl _ w).alloc (Nat.le_refl _) _
  have hB2 := hB1.alloc hB1.size (.cells #[.bool true] 4)
  have hB3 := hB2.alloc hB2.size (.cells #[.slice A l.length c] 22)
  refine wpIn_rangeFunc_ownH rfl (by omega) (gf := 101) (lb := #[.pointer (some ⟨w.heap.size + 1 + 1, 0, none⟩)]) rfl trivial (enters_of Tryz.func101 (by kernel_rfl) rfl)
    (pairs_stops 4 (by omega) (w.heap.size + 1 + 1) w.heap.size A c l h16 _ hB3.size bN (fun k hk => by
      obtain ⟨b, o, e, hb, h⟩ := hcell k hk
      exact ⟨b, o, e, hb, pt_keep hb h hB3⟩)) KpR.t (KpR.b hB3.size) (Below.refl _ _) (fun _ => rfl)
    (fun pre W => SlJ w (upL l pre) (dnL l pre) W)
    (fun _ _ _ => False)
    (slj_own l w _ hB3.size)
    (fun _ _ _ _ _ hs _ _ => hs)
    ⟨⟨(bU.alloc _).alloc _, bD.alloc _⟩, hB3⟩
    (fun x a' W => ∃ P, a' = { tmps := #[.slice A l.length c, undef, .int .i64 0, .pointer (some ⟨w.heap.size, 0, none⟩), .pointer (some ⟨w.heap.size + 1, 0, none⟩), .pointer (some ⟨P, 0, none⟩), .pointer (some ⟨P + 1, 0, none⟩), .slice A l.length c, .func (.func 101) #[] #[.pointer (some ⟨w.heap.size + 1 + 1, 0, none⟩)], (.agg #[.int .i64 (pX l x).1, .int .i64 (pX l x).2]), (.agg #[.int .i64 (pX l (x + 1)).1, .int .i64 (pX l (x + 1)).2]), undef, undef, undef, undef, undef, undef, undef, undef, undef, undef, undef, undef, undef, undef, undef, undef, undef, undef, undef, undef], defers := [] } ∧ PAt W P (pX l x).1 (pX l x).2 ∧ PAt W (P + 1) (pX l (x + 1)).1 (pX l (x + 1)).2)
    ?own ?assign ?body ?done ?stop
  case own =>
    intro x a'
    exact Own.from (fun s A' B' row hs hg hr => hs.imp fun P h => ⟨h.1, pat_own P _ _ () A' B' row h.2.1 hg hr, pat_own (P + 1) _ _ () A' B' row h.2.2 hg hr⟩) _
  case assign =>
    intro lp pre x W K hI hK
    have hsz := hI.2.size
    have hI2 := fun o => (slj_own l w _ hB3.size).alloc o hI
    dsimp only [prV, ptV]
    gi_wp2
    have hk1 := (KpR.refl w.heap.size 22 W).alloc hsz (.cells #[.int .i64 (pX l x).1, .int .i64 (pX l x).2] 31)
    have hk2 := hk1.alloc (by simp; omega) (.cells #[.int .i64 (pX l (x + 1)).1, .int .i64 (pX l (x + 1)).2] 31)
    exact hK _ _ (((KeepsOthers.alloc W _).trans (KeepsOthers.alloc _ _)).from _) hk2 ((slj_own l w _ hB3.size).alloc _ (hI2 _)) ⟨W.heap.size, rfl, by
      have h1 := World.alloc_heap_new W (.cells #[.int .i64 (pX l x).1, .int .i64 (pX l x).2] 31)
      show (World.alloc _ _).heap[W.heap.size]? = _
      rw [Below.heap_alloc _ _ _ (by simp)]
      exact h1, by
      have h1 := World.alloc_heap_new (W.alloc (.cells #[.int .i64 (pX l x).1, .int .i64 (pX l x).2] 31)) (.cells #[.int .i64 (pX l (x + 1)).1, .int .i64 (pX l (x + 1)).2] 31)
      rw [World.size_alloc] at h1
      exact h1⟩
  case body =>
    rintro lp pre x a' W hlp hrec ⟨⟨hu, hd⟩, hB⟩ ⟨P, rfl, hP, hQ⟩ hlt
    have HU := Lib.hid (upL_snoc l pre x)
    have HD := Lib.hid (dnL_snoc l pre x)
    generalize (pX l x).1 = X at *
    generalize (pX l x).2 = Y at *
    generalize (pX l (x + 1)).1 = X2 at *
    generalize (pX l (x + 1)).2 = Y2 at *
    generalize upL l pre = u at *
    generalize dnL l pre = d at *
    have cU := hu.cell
    have cD := hd.cell
    have fU := hu.frozen
    have fD := hd.frozen
    have p1 : W.cell? ⟨P, 1, none⟩ = some (.int .i64 Y) := cell_of_row W _ 1 _ _ _ hP
    have q1 : W.cell? ⟨P + 1, 1, none⟩ = some (.int .i64 Y2) := cell_of_row W _ 1 _ _ _ hQ
    cases u <;> cases d
    all_goals
      gi_wp2
      refine ⟨((KeepsOthers.setCell W _ _).trans (KeepsOthers.setCell _ _ _)).from _, ((KpR.refl w.heap.size 22 W).set hu (by decide) (Nat.le_refl _) _).set (hd.other (by omega) _) (by decide) (Nat.le_succ _) _, ?_⟩
      show SlJ w (upL l (pre ++ [x])) (dnL l (pre ++ [x])) _
      rw [HU.out, HD.out]
      exact ⟨⟨(hu.set _).other (by omega) _, (hd.other (by omega) _).set _⟩, (hB.setCell (p := ⟨w.heap.size, 0, none⟩) (Nat.le_refl _) _).setCell (p := ⟨w.heap.size + 1, 0, none⟩) (Nat.le_succ _) _⟩
  case done =>
    rintro D ys W hD rfl ⟨⟨hu, hd⟩, hB⟩ hK
    rw [(upL_all l).1] at hu
    rw [(upL_all l).2] at hd
    have hE : (if upY l then (1 : Int) else if downY l then -1 else 0) = E := HE.out
    generalize upY l = u at *
    generalize downY l = d at *
    have cU := hu.cell
    have cD := hd.cell
    have hBB := Lib.hid (hB.trans (belowK_b (w := w) (Nat.le_refl _) W D _ (.deferred none) (by simp at hD; omega) hK rfl rfl))
    cases u <;> cases d <;> simp only [if_true, if_false, Bool.false_eq_true] at hE <;> subst hE
    all_goals
      gi_wp2
      refine ⟨by simp, .inl ⟨_, _, rfl, run_takeDeferred hK, ?_⟩⟩
      refine ⟨_, results_tmp rfl _ _ _, ?_⟩
      exact ⟨rfl, hBB.out⟩
  case stop =>
    rintro D c pre W _ _ h _
    exact h.elim
end Go.Proofs.YtfehefafgghopaaGreatDoor

namespace Go.Proofs.YtfehefafgghopaaGreatDoor
open Go.RowKit

theorem cSlope_any (A : Option Addr) (n c : Nat) (l : List PT) (w : World) (hl : shP.In w A n l) (hn : n ≤ 9223372036854775806) :
    Calls Tryz.prog 24 #[.slice A n c] w fun e w' => e = .returned (.tuple #[.int .i64 (slopeT l), .int .i64 (chkC l)]) ∧ Below w.heap.size w w' := by
  have hB := Below.refl w.heap.size w
  have HC := Lib.hid (fun w hl => ccheck_any A n c l w hl (by omega))
  have HL := Lib.hid hl
  have hV : slopeT l = if chkC l ≠ 0 then 0 else slC l := rfl
  by_cases h1 : chkC l = 0
  · have hok := chkC_ok.1 h1
    have HS := Lib.hid (fun w hl => cslope_any A n c l w hl hok.few)
    rw [if_neg (by simpa using h1)] at hV
    rw [h1] at HC ⊢
    rw [hV]
    generalize slC l = sl at *
    clear hV h1 hl hok
    go_enter Tryz.func24, Tryz.ntmps24
    go_wp2_with (first | (go_at_call 19; with_reducible refine (HC.out _ (HL.out.below hB)).mono ?_; rintro e wk ⟨rfl, hb⟩; replace hB := hB.trans (hb.mono hB.size); clear hb) | (go_at_call 52; with_reducible refine (HS.out _ (HL.out.below hB)).mono ?_; rintro e wk ⟨rfl, hb⟩; replace hB := hB.trans (hb.mono hB.size); clear hb))
    go_ret2
    exact ⟨rfl, hB⟩
  · rw [if_pos h1] at hV
    rw [hV]
    generalize chkC l = k at *
    have g1 : (k == 0) = false := by simpa using h1
    have g2 : (k != 0) = true := by simpa using h1
    clear hV h1 hl
    go_enter Tryz.func24, Tryz.ntmps24
    go_wp2_with (go_at_call 19; with_reducible refine (HC.out _ (HL.out.below hB)).mono ?_; rintro e wk ⟨rfl, hb⟩; replace hB := hB.trans (hb.mono hB.size); clear hb)
    go_ret2
    exact ⟨rfl, hB⟩
theorem vs_set : ∀ (l : List PT) (k : Nat) (_ : k < l.length) (x y : Int), ((shP.vs l).set (k * 2) (.int .i64 x)).set (k * 2 + 1) (.int .i64 y) = shP.vs (l.set k (x, y))
  | a :: t, 0, _, x, y => rfl
  | a :: t, k + 1, h, x, y => by
    have ih := vs_set t k (by simpa using h) x y
    show ((Value.int .i64 a.1 :: .int .i64 a.2 :: shP.vs t).set ((k + 1) * 2) _).set ((k + 1) * 2 + 1) _ = .int .i64 a.1 :: .int .i64 a.2 :: shP.vs (t.set k (x, y))
    rw [show (k + 1) * 2 = k * 2 + 1 + 1 by omega]
    simp only [List.set_cons_succ]
    rw [ih]
set_option maxRecDepth 100000 in
set_option maxHeartbeats 8000000 in
theorem reverse_any (base g n c : Nat) (l : List PT) (w : World) (hown : w.ownsRow base 31 2 (.slice (some ⟨g, 0, none⟩) n c) n (shP.vs l)) (hn : n = l.length) (_ : base ≤ w.heap.size) (h16 : n ≤ 16) :
    Calls Tryz.prog 53 #[.slice (some ⟨g, 0, none⟩) n c] w fun e w' => e = .returned (.tuple #[]) ∧ w'.ownsRow base 31 2 (.slice (some ⟨g, 0, none⟩) n c) n (shP.vs l.reverse) ∧ Below base w w' := by
  subst hn
  go_enter Tryz.func53, Tryz.ntmps53
  go_wp2
  go_loopw [2, 3] (fun iv jv wr => ∃ (k : Nat) (cur : List PT), k ≤ l.length ∧ iv = .int .i64 k ∧ jv = .int .i64 ((l.length : Int) - 1 - (k : Int)) ∧ cur.length = l.length ∧ (∀ t (h : t < cur.length) (h2 : t < l.length), cur[t] = if t < k ∨ l.length - 1 < t + k then l[l.length - 1 - t]'(by omega) else l[t]) ∧ wr.ownsRow base 31 2 (.slice (some ⟨g, 0, none⟩) l.length c) l.length (shP.vs cur) ∧ Below base w wr) (fun iv _ _ => l.length - (intOf iv).toNat)
  case atStart => exact ⟨0, l, Nat.zero_le _, rfl, by go_num, rfl, fun t h h2 => by rw [if_neg (by omega)], hown, Below.refl _ _⟩
  case round =>
    obtain ⟨k, cur, hk, rfl, rfl, hcl, hcur, hownr, hbr⟩ := hrel
    have HCur := Lib.hid hcur
    have HCl := Lib.hid hcl
    by_cases hlt : (k : Int) < (l.length : Int) - 1 - (k : Int)
    · have hk2 : k < cur.length := by omega
      have hm2 : l.length - 1 - k < cur.length := by omega
      have hgl : g < wr.heap.size := (hownr.lt _ rfl).2
      obtain ⟨b, o, e, -, hc⟩ := pt_at (Sh.In.of_own (S := shP) hownr hcl.symm) (by omega)
      injection e with e
      injection e with e1 e2
      subst e1; subst e2
      obtain ⟨p0, p1⟩ := hc k hk2
      obtain ⟨q0, q1⟩ := hc (l.length - 1 - k) hm2
      rw [Nat.zero_add] at p0 p1 q0 q1
      have f0 := hownr.frozenAt (k * 2)
      have f1 := hownr.frozenAt (k * 2 + 1)
      have f2 := hownr.frozenAt ((l.length - 1 - k) * 2)
      have f3 := hownr.frozenAt ((l.length - 1 - k) * 2 + 1)
      have i0 : (0 : Int) ≤ (k : Int) := by omega
      have i1 : (k : Int) < (l.length : Int) := by omega
      have j0 : (0 : Int) ≤ (l.length : Int) - 1 - (k : Int) := by omega
      have j1 : (l.length : Int) - 1 - (k : Int) < (l.length : Int) := by omega
      have j3 : ((l.length : Int) - 1 - (k : Int)).toNat = l.length - 1 - k := by omega
      have w1 : IntKind.i64.wrap ((k : Int) + 1) = (k : Int) + 1 := IntWalk.i64_in _ (by omega)
      have w2 : IntKind.i64.wrap ((l.length : Int) - 1 - (k : Int) - 1) = (l.length : Int) - 1 - (k : Int) - 1 := IntWalk.i64_in _ (by omega)
      have hne : ¬ k * 2 = (l.length - 1 - k) * 2 := by omega
      have hne1 : ¬ k * 2 + 1 = (l.length - 1 - k) * 2 + 1 := by omega
      have hne2 : ¬ k * 2 = (l.length - 1 - k) * 2 + 1 := by omega
      have hne3 : ¬ k * 2 + 1 = (l.length - 1 - k) * 2 := by omega
      have HOw := Lib.hid hownr
      have HBr := Lib.hid hbr
      have hxk := hcur k hk2 (by omega)
      rw [if_neg (by omega)] at hxk
      have hxm := hcur (l.length - 1 - k) hm2 (by omega)
      rw [if_neg (by omega)] at hxm
      generalize hX : cur[k] = x1 at *
      generalize hY : cur[l.length - 1 - k] = x2 at *
      obtain ⟨X, Y⟩ := x1
      obtain ⟨X2, Y2⟩ := x2
      dsimp only at p0 p1 q0 q1
      have HXk := Lib.hid hxk
      have HXm := Lib.hid hxm
      have hbg := (hownr.lt _ rfl).1
      clear hc hcur hownr hbr hX hY hown hxk hxm
      go_wp2_with fail
      go_region
      have h1 := (HOw.out.stored (k * 2) (.int .i64 X2)).1
      have h2 := (h1.stored (k * 2 + 1) (.int .i64 Y2)).1
      rw [vs_set cur k hk2] at h2
      have h3 := (h2.stored ((l.length - 1 - k) * 2) (.int .i64 X)).1
      have h4 := (h3.stored ((l.length - 1 - k) * 2 + 1) (.int .i64 Y)).1
      rw [vs_set _ (l.length - 1 - k) (by rw [List.length_set]; exact hm2)] at h4
      have h5 := own_below h4 (Below.refl _ _).drew
      have hb5 := ((((HBr.out.setCell (p := ⟨g, k * 2, none⟩) hbg (.int .i64 X2)).setCell (p := ⟨g, k * 2 + 1, none⟩) hbg (.int .i64 Y2)).setCell (p := ⟨g, (l.length - 1 - k) * 2, none⟩) hbg (.int .i64 X)).setCell (p := ⟨g, (l.length - 1 - k) * 2 + 1, none⟩) hbg (.int .i64 Y)).drew
      generalize World.drew _ = W6 at *
      have H5 := Lib.hid h5
      have HB5 := Lib.hid hb5
      clear h1 h2 h3 h4 h5 hb5 p0 p1 q0 q1 f0 f1 f2 f3
      go_wp2_with fail
      go_roundw
      case rel =>
        refine ⟨k + 1, (cur.set k (X2, Y2)).set (l.length - 1 - k) (X, Y), by omega, by go_num, by go_num, by rw [List.length_set, List.length_set]; exact HCl.out, fun t h h2 => ?_, H5.out, HB5.out⟩
        rw [List.getElem_set]
        by_cases t1 : l.length - 1 - k = t
        · rw [if_pos t1, HXk.out, if_pos (by omega)]
          congr 1; omega
        · rw [if_neg t1, List.getElem_set]
          by_cases t2 : k = t
          · rw [if_pos t2, HXm.out, if_pos (by omega)]
            congr 1; omega
          · rw [if_neg t2, HCur.out t (by rw [List.length_set, List.length_set] at h; exact h) h2]
            by_cases t3 : t < k ∨ l.length - 1 < t + k
            · rw [if_pos t3, if_pos (by omega)]
            · rw [if_neg t3, if_neg (by omega)]
      case measure => simp [intOf]; omega
    · have hrev : cur = l.reverse := List.ext_getElem (by rw [hcl, List.length_reverse]) fun t h h2 => by
        rw [hcur t h (by rw [List.length_reverse] at h2; exact h2), List.getElem_reverse]
        by_cases t3 : t < k ∨ l.length - 1 < t + k
        · rw [if_pos t3]
        · rw [if_neg t3]
          have : l.length - 1 - t = t := by omega
          simp only [this]
      subst hrev
      clear hcur HCur hown
      go_wp2_with fail
      go_end0
      exact ⟨rfl, hownr, hbr⟩
end Go.Proofs.YtfehefafgghopaaGreatDoor

namespace Go.Proofs.YtfehefafgghopaaGreatDoor
open Go.RowKit

theorem inv_cases {l : List PT} (h : OkC l) (hp0 : 0 < l.length) (hp1 : l.length - 1 < l.length) :
    (slC l = 0 ∧ errI l = 16 ∧ invT l = []) ∨
    (slC l = 1 ∧ ((l[0].2 = 0 ∧ l[l.length - 1].2 = 65535 ∧ errI l = 0 ∧ invT l = l.map swapP) ∨ (¬ (l[0].2 = 0 ∧ l[l.length - 1].2 = 65535) ∧ errI l = 16 ∧ invT l = []))) ∨
    (slC l = -1 ∧ ((l[l.length - 1].2 = 0 ∧ l[0].2 = 65535 ∧ errI l = 0 ∧ invT l = (l.map swapP).reverse) ∨ (¬ (l[l.length - 1].2 = 0 ∧ l[0].2 = 65535) ∧ errI l = 16 ∧ invT l = []))) := by
  have h2 := h.two
  have h0 : chkC l = 0 := chkC_ok.2 h
  have hw := wholeYB h2
  have e0 : errI l = if slC l = 0 ∨ ¬ wholeC l then 16 else 0 := by unfold errI; rw [h0, if_neg (by decide)]
  have e1 : invT l = if errI l ≠ 0 then [] else turnC l := rfl
  have hup : ∀ (k : Nat) (hk : k < l.length), upY l = true → 0 < k → l[0].2 < l[k].2 := fun k => by
    induction k with
    | zero => intro _ _ h; omega
    | succ k ih =>
      intro hk hu _
      have h3 := upY_step hk hu
      by_cases hk0 : k = 0
      · subst hk0; exact h3
      · exact Int.lt_trans (ih (by omega) hu (by omega)) h3
  have hdn : ∀ (k : Nat) (hk : k < l.length), downY l = true → 0 < k → l[k].2 < l[0].2 := fun k => by
    induction k with
    | zero => intro _ _ h; omega
    | succ k ih =>
      intro hk hu _
      have h3 := downY_step hk hu
      by_cases hk0 : k = 0
      · subst hk0; exact h3
      · exact Int.lt_trans h3 (ih (by omega) hu (by omega))
  rcases slC_cases l with ⟨hs, hu⟩ | ⟨hs, hd⟩ | hs
  · refine .inr (.inl ⟨hs, ?_⟩)
    have hlt := hup (l.length - 1) hp1 hu (by omega)
    have et : turnC l = l.map swapP := by unfold turnC; rw [if_neg (by omega)]
    by_cases hq : l[0].2 = 0 ∧ l[l.length - 1].2 = 65535
    · have e2 : errI l = 0 := by rw [e0, if_neg (by rintro (h | h); omega; exact h (hw.2 (.inl hq)))]
      exact .inl ⟨hq.1, hq.2, e2, by rw [e1, e2, if_neg (by decide), et]⟩
    · have e2 : errI l = 16 := by
        rw [e0, if_pos (.inr fun h => by
          rcases hw.1 h with h | h
          · exact hq h
          · omega)]
      exact .inr ⟨hq, e2, by rw [e1, e2, if_pos (by decide)]⟩
  · refine .inr (.inr ⟨hs, ?_⟩)
    have hlt := hdn (l.length - 1) hp1 hd (by omega)
    have et : turnC l = (l.map swapP).reverse := by unfold turnC; rw [if_pos (by omega)]
    by_cases hq : l[l.length - 1].2 = 0 ∧ l[0].2 = 65535
    · have e2 : errI l = 0 := by rw [e0, if_neg (by rintro (h | h); omega; exact h (hw.2 (.inr ⟨hq.2, hq.1⟩)))]
      exact .inl ⟨hq.1, hq.2, e2, by rw [e1, e2, if_neg (by decide), et]⟩
    · have e2 : errI l = 16 := by
        rw [e0, if_pos (.inr fun h => by
          rcases hw.1 h with h | h
          · omega
          · exact hq ⟨h.2, h.1⟩)]
      exact .inr ⟨hq, e2, by rw [e1, e2, if_pos (by decide)]⟩
  · have e2 : errI l = 16 := by rw [e0, if_pos (.inl hs)]
    exact .inl ⟨hs, e2, by rw [e1, e2, if_pos (by decide)]⟩
set_option maxRecDepth 100000 in
set_option maxHeartbeats 8000000 in
theorem cinverse_any (A : Option Addr) (n c : Nat) (l : List PT) (w : World) (hl : shP.In w A n l) (hn : n ≤ 9223372036854775806) :
    Calls Tryz.prog 25 #[.slice A n c] w fun e w' => ∃ r, e = .returned (.tuple #[r, .int .i64 (errI l)]) ∧ shP.Out 31 (invT l) w r w' := by
  obtain ⟨rfl, _⟩ := id hl
  have hB := Below.refl w.heap.size w
  have HC := Lib.hid (fun w hl => ccheck_any A l.length c l w hl (by omega))
  have HL := Lib.hid hl
  by_cases h1 : chkC l = 0
  · have hok := chkC_ok.1 h1
    have h16 := hok.few
    have h2 := hok.two
    have hp0 : 0 < l.length := by omega
    have hp1 : l.length - 1 < l.length := by omega
    rw [h1] at HC
    have HS := Lib.hid (fun w hl => cslope_any A l.length c l w hl h16)
    have hic := inv_cases hok hp0 hp1
    have HIc := Lib.hid hic
    obtain ⟨sl, hsl⟩ : ∃ sl, slC l = sl := ⟨_, rfl⟩
    obtain ⟨EI, hEI⟩ : ∃ EI, errI l = EI := ⟨_, rfl⟩
    obtain ⟨IV, hIV⟩ : ∃ IV, invT l = IV := ⟨_, rfl⟩
    rw [hEI, hIV]
    rw [hsl] at HS HIc
    rw [hEI, hIV] at HIc
    have hml : (l.map swapP).length = l.length := by simp
    have Hml := Lib.hid hml
    clear h1 hl hok hic hml hsl hEI hIV
    go_enter Tryz.func25, Tryz.ntmps25
    go_wp2_with (go_at_call 19; with_reducible refine (HC.out _ (HL.out.below hB)).mono ?_; rintro e wk ⟨rfl, hb⟩; replace hB := hB.trans (hb.mono hB.size); clear hb)
    rename World => wc
    have HBc := Lib.hid hB
    clear hB
    go_loopw [5, 15] (fun vo iv wr => ∃ k : Nat, k ≤ l.length ∧ iv = .int .i64 k ∧ wr.ownsRow w.heap.size 31 2 vo k (shP.vs ((l.map swapP).take k)) ∧ Below w.heap.size w wr) (fun _ iv _ => l.length - (intOf iv).toNat)
    case atStart => exact ⟨0, Nat.zero_le _, rfl, World.ownsRow_nil _ _ _ _, HBc.out⟩
    case round =>
      obtain ⟨k, hk, rfl, hown, hb⟩ := hrel
      have hsz := hb.size
      by_cases hlt : k < l.length
      · obtain ⟨b, o, rfl, hbl, hc⟩ := pt_at (HL.out.below hb) (by omega)
        obtain ⟨p0, p1⟩ := hc k hlt
        have ht := Lib.hid (show shP.vs ((l.map swapP).take (k + 1)) = shP.vs ((l.map swapP).take k) ++ [.int .i64 l[k].2, .int .i64 l[k].1] by
          rw [shP.vs_take (l.map swapP) k (by rw [Hml.out]; exact hlt), List.getElem_map]; rfl)
        generalize l[k].1 = X at *
        generalize l[k].2 = Y at *
        obtain ⟨Ao, co, rfl⟩ := own_form hown
        have i0 : (0 : Int) ≤ (k : Int) := by omega
        have i1 : (k : Int) < (l.length : Int) := by omega
        clear hc
        go_wp2_with (at_builtin; refine wpList_push rfl _ _ _ rfl w.heap.size _ _ 2 16 Tryz.underlying22 infoPt rfl (by omega) _ k (shP.vs ((l.map swapP).take k)) rfl (hown.alloc _) [.int .i64 Y, .int .i64 X] _ _ _ rfl (by first | rfl | simp) rfl (pt_one _ _) (by unfold maxLen; omega) (by omega) (by first | omega | (simp; omega) | simp) ?_; intro g cap w1 hown1 hg1)
        go_roundw
        case rel => exact ⟨k + 1, by omega, by go_num, by rw [ht.out]; exact hown1, below_push (hb.alloc hsz _) (Nat.le_refl _) (hown.alloc _) hg1⟩
        case measure => simp [intOf]; omega
      · obtain rfl : k = l.length := by omega
        rw [List.take_of_length_le (by rw [Hml.out]; omega)] at hown
        obtain ⟨g, co, rfl, hgb⟩ : ∃ g cap, _ = Value.slice (some ⟨g, 0, none⟩) l.length cap ∧ w.heap.size ≤ g := by
          rcases hown.2 with ⟨-, h⟩ | ⟨g, cap, cur, h, h2, -⟩
          · omega
          · exact ⟨g, cap, h, h2⟩
        have HBr := Lib.hid hb
        have hB := Below.refl wr.heap.size wr
        have w1 : IntKind.i64.wrap ((l.length : Int) - 1) = (l.length : Int) - 1 := IntWalk.i64_in _ (by omega)
        have w2 : ((l.length : Int) - 1).toNat = l.length - 1 := by omega
        have i0 : (0 : Int) < (l.length : Int) := by omega
        have i1 : (0 : Int) ≤ (l.length : Int) - 1 := by omega
        have i2 : (l.length : Int) - 1 < (l.length : Int) := by omega
        have Hown := Lib.hid hown
        replace HL := Lib.hid (HL.out.below hb)
        clear hb hown
        rcases HIc.out with ⟨rfl, rfl, rfl⟩ | ⟨rfl, hq⟩ | ⟨rfl, hq⟩
        · clear HIc
          go_wp2_with (go_at_call 52; with_reducible refine (HS.out _ (HL.out.below hB)).mono ?_; rintro e wk ⟨rfl, hb⟩; replace hB := hB.trans (hb.mono hB.size); clear hb)
          go_ret2
          exact ⟨_, rfl, Sh.Out.nil (HBr.out.trans (hB.mono HBr.out.size))⟩
        · clear HIc
          obtain ⟨X0, hX0⟩ : ∃ X0, (l[0]'hp0).2 = X0 := ⟨_, rfl⟩
          obtain ⟨X1, hX1⟩ : ∃ X1, (l[l.length - 1]'hp1).2 = X1 := ⟨_, rfl⟩
          rw [hX0, hX1] at hq
          have Hcell := Lib.hid (fun (w' : World) (h : w'.ownsRow w.heap.size 31 2 (.slice (some ⟨g, 0, none⟩) l.length co) l.length (shP.vs (l.map swapP))) => (show w'.cell? ⟨g, 0, none⟩ = some (.int .i64 X0) ∧ w'.cell? ⟨g, (l.length - 1) * 2, none⟩ = some (.int .i64 X1) by
            obtain ⟨b, o, e, -, hc⟩ := pt_at (Sh.In.of_own (S := shP) h Hml.out.symm) (by rw [Hml.out]; exact hp0)
            injection e with e
            injection e with e1 e2
            subst e1; subst e2
            have c1 := (hc 0 (by rw [Hml.out]; exact hp0)).1
            have c2 := (hc (l.length - 1) (by rw [Hml.out]; exact hp1)).1
            rw [List.getElem_map] at c1 c2
            rw [← hX0, ← hX1]
            simp only [Nat.zero_mul, Nat.zero_add] at c1 c2
            exact ⟨c1, c2⟩))
          clear hX0 hX1
          rcases hq with ⟨rfl, rfl, rfl, rfl⟩ | ⟨hq, rfl, rfl⟩
          · go_wp2_with (go_at_call 52; with_reducible refine (HS.out _ (HL.out.below hB)).mono ?_; rintro e wk ⟨rfl, hb⟩; replace hB := hB.trans (hb.mono hB.size); clear hb; obtain ⟨p0, p1⟩ := Hcell.out _ (own_below Hown.out hB))
            go_ret2
            exact ⟨.slice (some ⟨g, 0, none⟩) l.length co, rfl, some ⟨g, 0, none⟩, co, by rw [Hml.out], by rw [Hml.out]; exact own_below Hown.out hB, HBr.out.trans (hB.mono HBr.out.size)⟩
          · by_cases hx : X0 = 0
            · subst hx
              have hy : ¬ X1 = 65535 := fun h => hq ⟨rfl, h⟩
              have g1 : (X1 == 65535) = false := by simpa using hy
              have g2 : (X1 != 65535) = true := by simpa using hy
              clear hq hy
              go_wp2_with (go_at_call 52; with_reducible refine (HS.out _ (HL.out.below hB)).mono ?_; rintro e wk ⟨rfl, hb⟩; replace hB := hB.trans (hb.mono hB.size); clear hb; obtain ⟨p0, p1⟩ := Hcell.out _ (own_below Hown.out hB))
              go_ret2
              exact ⟨_, rfl, Sh.Out.nil (HBr.out.trans (hB.mono HBr.out.size))⟩
            · have g1 : (X0 == 0) = false := by simpa using hx
              have g2 : (X0 != 0) = true := by simpa using hx
              clear hq hx
              go_wp2_with (go_at_call 52; with_reducible refine (HS.out _ (HL.out.below hB)).mono ?_; rintro e wk ⟨rfl, hb⟩; replace hB := hB.trans (hb.mono hB.size); clear hb; obtain ⟨p0, p1⟩ := Hcell.out _ (own_below Hown.out hB))
              go_ret2
              exact ⟨_, rfl, Sh.Out.nil (HBr.out.trans (hB.mono HBr.out.size))⟩
        · clear HIc
          obtain ⟨X0, hX0⟩ : ∃ X0, (l[0]'hp0).2 = X0 := ⟨_, rfl⟩
          obtain ⟨X1, hX1⟩ : ∃ X1, (l[l.length - 1]'hp1).2 = X1 := ⟨_, rfl⟩
          rw [hX0, hX1] at hq
          have hrl : ((l.map swapP).reverse).length = l.length := by simp
          have Hrl := Lib.hid hrl
          have Hcell := Lib.hid (fun (w' : World) (h : w'.ownsRow w.heap.size 31 2 (.slice (some ⟨g, 0, none⟩) l.length co) l.length (shP.vs (l.map swapP).reverse)) => (show w'.cell? ⟨g, 0, none⟩ = some (.int .i64 X1) ∧ w'.cell? ⟨g, (l.length - 1) * 2, none⟩ = some (.int .i64 X0) by
            obtain ⟨b, o, e, -, hc⟩ := pt_at (Sh.In.of_own (S := shP) h hrl.symm) (by rw [hrl]; exact hp0)
            injection e with e
            injection e with e1 e2
            subst e1; subst e2
            have c1 := (hc 0 (by rw [hrl]; exact hp0)).1
            have c2 := (hc (l.length - 1) (by rw [hrl]; exact hp1)).1
            rw [List.getElem_reverse, List.getElem_map] at c1 c2
            rw [← hX0, ← hX1]
            simp only [Nat.zero_mul, Nat.zero_add, List.length_map, Nat.sub_zero, Nat.sub_self] at c1 c2
            exact ⟨c1, c2⟩))
          have HRv := Lib.hid (fun (w' : World) h hb => reverse_any w.heap.size g l.length co (l.map swapP) w' h Hml.out.symm hb h16)
          have hsw := HBr.out.size
          clear hX0 hX1 hrl
          rcases hq with ⟨rfl, rfl, rfl, rfl⟩ | ⟨hq, rfl, rfl⟩
          · go_wp2_with (first | (go_at_call 52; with_reducible refine (HS.out _ (HL.out.below hB)).mono ?_; rintro e wk ⟨rfl, hb⟩; replace hB := hB.trans (hb.mono hB.size); clear hb) | (go_at_call 53; refine (HRv.out _ (own_below Hown.out hB) (Nat.le_trans hsw hB.size)).mono ?_; rintro e wk ⟨rfl, hown4, hb4⟩; have hB4 := (hB.mono hsw).trans hb4; clear hb4; obtain ⟨p0, p1⟩ := Hcell.out _ hown4))
            go_ret2
            exact ⟨.slice (some ⟨g, 0, none⟩) l.length co, rfl, some ⟨g, 0, none⟩, co, by rw [Hrl.out], by rw [Hrl.out]; exact hown4, HBr.out.trans hB4⟩
          · by_cases hx : X1 = 0
            · subst hx
              have hy : ¬ X0 = 65535 := fun h => hq ⟨rfl, h⟩
              have g1 : (X0 == 65535) = false := by simpa using hy
              have g2 : (X0 != 65535) = true := by simpa using hy
              clear hq hy
              go_wp2_with (first | (go_at_call 52; with_reducible refine (HS.out _ (HL.out.below hB)).mono ?_; rintro e wk ⟨rfl, hb⟩; replace hB := hB.trans (hb.mono hB.size); clear hb) | (go_at_call 53; refine (HRv.out _ (own_below Hown.out hB) (Nat.le_trans hsw hB.size)).mono ?_; rintro e wk ⟨rfl, hown4, hb4⟩; have hB4 := (hB.mono hsw).trans hb4; clear hb4; obtain ⟨p0, p1⟩ := Hcell.out _ hown4))
              go_ret2
              exact ⟨_, rfl, Sh.Out.nil (HBr.out.trans hB4)⟩
            · have g1 : (X1 == 0) = false := by simpa using hx
              have g2 : (X1 != 0) = true := by simpa using hx
              clear hq hx
              go_wp2_with (first | (go_at_call 52; with_reducible refine (HS.out _ (HL.out.below hB)).mono ?_; rintro e wk ⟨rfl, hb⟩; replace hB := hB.trans (hb.mono hB.size); clear hb) | (go_at_call 53; refine (HRv.out _ (own_below Hown.out hB) (Nat.le_trans hsw hB.size)).mono ?_; rintro e wk ⟨rfl, hown4, hb4⟩; have hB4 := (hB.mono hsw).trans hb4; clear hb4; obtain ⟨p0, p1⟩ := Hcell.out _ hown4))
              go_ret2
              exact ⟨_, rfl, Sh.Out.nil (HBr.out.trans hB4)⟩
  · have e2 : errI l = chkC l := by unfold errI; rw [if_pos h1]
    have e : invT l = [] := by unfold invT; rw [e2, if_pos h1]
    rw [e, e2]
    generalize chkC l = q at *
    have g1 : (q == 0) = false := by simpa using h1
    have g2 : (q != 0) = true := by simpa using h1
    clear e e2 h1 hl
    go_enter Tryz.func25, Tryz.ntmps25
    go_wp2_with (go_at_call 19; with_reducible refine (HC.out _ (HL.out.below hB)).mono ?_; rintro e wk ⟨rfl, hb⟩; replace hB := hB.trans (hb.mono hB.size); clear hb)
    go_ret2
    exact ⟨_, rfl, Sh.Out.nil hB⟩
end Go.Proofs.YtfehefafgghopaaGreatDoor

namespace Go.Proofs.YtfehefafgghopaaGreatDoor
open Go.RowKit

theorem num_text (z : Int) (b : ByteArray) (h : b.data.toList = Lib.itoa z) : sR ((z : Int) : Rat) = b := (sR_of (by rw [h]; unfold rT; rw [Rat.den_intCast, if_pos rfl, Rat.num_intCast])).symm
theorem digs5 (z : Int) (h0 : 10000 ≤ z) (h1 : z < 100000) : Lib.itoa z = [dg1 (z.natAbs / 10 / 10 / 10 / 10), dg1 (z.natAbs / 10 / 10 / 10 % 10), dg1 (z.natAbs / 10 / 10 % 10), dg1 (z.natAbs / 10 % 10), dg1 (z.natAbs % 10)] := by rw [itoa_pos' (by omega), dec_big (by omega), dec_big (by omega), dec_big (by omega), dec_big (by omega), dec_small (by omega)]; rfl
theorem n10000 : sR ((10000 : Int) : Rat) = ⟨#[49, 48, 48, 48, 48]⟩ := num_text _ _ (by rw [digs5 10000 (by decide) (by decide)]; rfl)
theorem n20000 : sR ((20000 : Int) : Rat) = ⟨#[50, 48, 48, 48, 48]⟩ := num_text _ _ (by rw [digs5 20000 (by decide) (by decide)]; rfl)
theorem n30000 : sR ((30000 : Int) : Rat) = ⟨#[51, 48, 48, 48, 48]⟩ := num_text _ _ (by rw [digs5 30000 (by decide) (by decide)]; rfl)
theorem n60000 : sR ((60000 : Int) : Rat) = ⟨#[54, 48, 48, 48, 48]⟩ := num_text _ _ (by rw [digs5 60000 (by decide) (by decide)]; rfl)
theorem n1 : sR ((1 : Int) : Rat) = ⟨#[49]⟩ := num_text _ _ (by rw [itoa_one])

def thirdR : Rat := mkRat 1 3
theorem third_bytes : sR thirdR = ⟨#[49, 47, 51]⟩ := (sR_of (by
  show [49, 47, 51] = rT thirdR
  have h1 : thirdR.den = 3 := by decide +kernel
  have h2 : thirdR.num = 1 := by decide +kernel
  unfold rT
  rw [h1, h2, if_neg (by decide), itoa_one, dec_small (by decide)]
  rfl)).symm
theorem third_sz : SzR 1 thirdR := by
  have h1 : thirdR.den = 3 := by decide +kernel
  have h2 : thirdR.num = 1 := by decide +kernel
  unfold SzR
  rw [h1, h2]
  decide
def exC : List PT := [(0, 0), (20000, 60000), (65535, 65535)]
def exD : List PT := [(0, 0), (100, 0), (65535, 65535)]
def exE : List PT := [(0, 0), (10, 20), (20, 40), (65535, 40)]
def exI : List PT := [(0, 0), (60000, 20000), (65535, 65535)]
def exT : List PT := [(0, 0), (20, 40), (65535, 40)]
theorem exC_ok : chkC exC = 0 := by decide
theorem ex_at {k : Nat} {r : Rat} (hz : SzR k r) (hk : k ≤ 100) (hi : InL r) (c : List PT) (hc : chkC c = 0) : errC c (sR r) = 0 ∧ atC c (sR r) = sR (valC c r) := by
  have hv : valR (sR r).data.toList = r := by rw [sR_list, valR_rT]
  have he : errLv (sR r).data.toList = 0 := by
    unfold errLv
    rw [sR_list, chkR_fit (hz.fit (by omega)), if_neg (by decide), valR_rT, if_pos hi]
  have e : errC c (sR r) = 0 := by unfold errC; rw [hc, if_neg (by decide), he]
  exact ⟨e, by unfold atC; rw [e, if_neg (by decide), hv]⟩
theorem inL_z {z : Int} (h0 : 0 ≤ z) (h1 : z ≤ 65535) : InL ((z : Int) : Rat) := ⟨cast_le.2 h0, cast_le.2 h1⟩
theorem third_in : InL thirdR := ⟨by decide +kernel, by decide +kernel⟩
theorem at_ex {r s : Rat} {x y : ByteArray} (hx : sR r = x) (hy : sR s = y) {k : Nat} (hz : SzR k r) (hk : k ≤ 100) (hi : InL r) (hv : valC exC r = s) (A : Option Addr) (c : Nat) (w : World) (hl : shP.In w A 3 exC) (ht : Tab w) :
    Calls Tryz.prog 12 #[.slice A 3 c, .string x] w fun e w' => e = .returned (.tuple #[.string y, .int .i64 0]) ∧ Below w.heap.size w w' := by
  have := cat_any A 3 c exC (sR r) w hl (by decide) (Nat.le_trans hz.len (by omega)) ht
  obtain ⟨e1, e2⟩ := ex_at hz hk hi exC exC_ok
  rw [e1, e2, hv, hx, hy] at this
  exact this
theorem exC_in (w : World) (t : TypeId) (b : Nat) (hb : b = w.heap.size) : shP.In (w.alloc (.cells #[.int .i64 0, .int .i64 0, .int .i64 20000, .int .i64 60000, .int .i64 65535, .int .i64 65535] t)) (some ⟨b, 0, none⟩) 3 exC := Sh.In.fresh (S := shP) w exC t b hb
theorem exD_in (w : World) (t : TypeId) (b : Nat) (hb : b = w.heap.size) : shP.In (w.alloc (.cells #[.int .i64 0, .int .i64 0, .int .i64 100, .int .i64 0, .int .i64 65535, .int .i64 65535] t)) (some ⟨b, 0, none⟩) 3 exD := Sh.In.fresh (S := shP) w exD t b hb
theorem exE_in (w : World) (t : TypeId) (b : Nat) (hb : b = w.heap.size) : shP.In (w.alloc (.cells #[.int .i64 0, .int .i64 0, .int .i64 10, .int .i64 20, .int .i64 20, .int .i64 40, .int .i64 65535, .int .i64 40] t)) (some ⟨b, 0, none⟩) 4 exE := Sh.In.fresh (S := shP) w exE t b hb
theorem exI_in (w : World) (t : TypeId) (b : Nat) (hb : b = w.heap.size) : shP.In (w.alloc (.cells #[.int .i64 0, .int .i64 0, .int .i64 60000, .int .i64 20000, .int .i64 65535, .int .i64 65535] t)) (some ⟨b, 0, none⟩) 3 exI := Sh.In.fresh (S := shP) w exI t b hb
theorem exT_in (w : World) (t : TypeId) (b : Nat) (hb : b = w.heap.size) : shP.In (w.alloc (.cells #[.int .i64 0, .int .i64 0, .int .i64 20, .int .i64 40, .int .i64 65535, .int .i64 40] t)) (some ⟨b, 0, none⟩) 3 exT := Sh.In.fresh (S := shP) w exT t b hb
set_option maxRecDepth 100000 in
set_option maxHeartbeats 8000000 in
theorem cawake_any (w : World) (ht : Tab w) : Calls Tryz.prog 11 #[] w fun e w' => e = .returned (.bool true) ∧ Below w.heap.size w w' := by
  have HA1 := Lib.hid (fun A c w hl ht => at_ex n10000 n30000 (SzR.int (k := 5) (by decide) (by decide)) (by decide) (inL_z (by decide) (by decide)) (by decide +kernel) A c w hl ht)
  have HA2 := Lib.hid (fun A c w hl ht => at_ex n20000 n60000 (SzR.int (k := 5) (by decide) (by decide)) (by decide) (inL_z (by decide) (by decide)) (by decide +kernel) A c w hl ht)
  have HA3 := Lib.hid (fun A c w hl ht => at_ex third_bytes n1 third_sz (by decide) third_in (by decide +kernel) A c w hl ht)
  have HI1 := Lib.hid (fun A c w hl => (show Calls Tryz.prog 25 #[.slice A 3 c] w fun e w' => ∃ r, e = .returned (.tuple #[r, .int .i64 0]) ∧ shP.Out 31 exI w r w' by
    have := cinverse_any A 3 c exC w hl (by decide)
    rw [show errI exC = 0 by decide, show invT exC = exI by decide] at this
    exact this))
  have HI2 := Lib.hid (fun A c w hl => (show Calls Tryz.prog 25 #[.slice A 3 c] w fun e w' => ∃ r, e = .returned (.tuple #[r, .int .i64 16]) ∧ shP.Out 31 [] w r w' by
    have := cinverse_any A 3 c exD w hl (by decide)
    rw [show errI exD = 16 by decide, show invT exD = [] by decide] at this
    exact this))
  have HTd := Lib.hid (fun A c w hl ht => (show Calls Tryz.prog 27 #[.slice A 4 c] w fun e w' => ∃ r, e = .returned (.tuple #[r, .int .i64 0]) ∧ shP.Out 31 exT w r w' by
    have := ctidy_any A 4 c exE w hl (by decide) ht
    rw [show chkC exE = 0 by decide, show tidyT exE = exT by decide] at this
    exact this))
  have HS1 := Lib.hid (fun A B c d w hl hk => (show Calls Tryz.prog 21 #[.slice A 3 c, .slice B 3 d] w fun e w' => e = .returned (.bool true) ∧ Below w.heap.size w w' from r9same_any A B 3 3 c d exI exI w hl hk (by decide) (by decide)))
  have HS2 := Lib.hid (fun A B c d w hl hk => (show Calls Tryz.prog 21 #[.slice A 3 c, .slice B 3 d] w fun e w' => e = .returned (.bool true) ∧ Below w.heap.size w w' from r9same_any A B 3 3 c d exT exT w hl hk (by decide) (by decide)))
  have HT0 := Lib.hid ht
  clear ht
  go_enter Tryz.func11, Tryz.ntmps11
  go_wp2_with fail
  generalize hW : World.alloc w _ = W
  have hs : W.heap.size = w.heap.size + 1 := by rw [← hW]; simp
  have hBW : Below w.heap.size w W := by rw [← hW]; exact (Below.refl _ w).alloc (Nat.le_refl _) _
  have hin : shP.In W (some ⟨w.heap.size, 0, none⟩) 3 exC := by rw [← hW]; exact exC_in w _ _ rfl
  have HIn := Lib.hid hin
  have HBW := Lib.hid hBW
  have HT := Lib.hid (HT0.out.below hBW)
  have hB := Below.refl W.heap.size W
  clear hW hs hBW hin
  refine (HA1.out _ _ _ (HIn.out.below hB) (HT.out.below hB)).mono ?_
  rintro e wk ⟨rfl, hb⟩
  replace hB := hB.trans (hb.mono hB.size)
  clear hb
  go_wp2_with fail
  refine (HA2.out _ _ _ (HIn.out.below hB) (HT.out.below hB)).mono ?_
  rintro e wk ⟨rfl, hb⟩
  replace hB := hB.trans (hb.mono hB.size)
  clear hb
  go_wp2_with fail
  refine (HA3.out _ _ _ (HIn.out.below hB) (HT.out.below hB)).mono ?_
  rintro e wk ⟨rfl, hb⟩
  replace hB := hB.trans (hb.mono hB.size)
  clear hb
  go_wp2_with fail
  refine (HI1.out _ _ _ (HIn.out.below hB)).mono ?_
  rintro e w1 ⟨r1, rfl, A1, c1, rfl, ho1, hb⟩
  replace hB := hB.trans (hb.mono hB.size)
  have hi1 : shP.In w1 A1 3 exI := Sh.In.of_own ho1 rfl
  clear hb ho1
  go_wp2_with fail
  have hBq := (Below.refl w1.heap.size w1).alloc (Nat.le_refl _) (.cells #[.int .i64 0, .int .i64 0, .int .i64 100, .int .i64 0, .int .i64 65535, .int .i64 65535] 31)
  refine (HI2.out _ _ _ (exD_in w1 _ _ rfl)).mono ?_
  rintro e w2 ⟨r2, rfl, A2, c2, rfl, ho2, hb⟩
  have hBr := hBq.trans (hb.mono hBq.size)
  have hi1 := hi1.below hBr
  replace hB := hB.trans (hBr.mono hB.size)
  clear hb ho2 hBq hBr
  go_wp2_with fail
  have hBq := (Below.refl w2.heap.size w2).alloc (Nat.le_refl _) (.cells #[.int .i64 0, .int .i64 0, .int .i64 10, .int .i64 20, .int .i64 20, .int .i64 40, .int .i64 65535, .int .i64 40] 31)
  refine (HTd.out _ _ _ (exE_in w2 _ _ rfl) ((HT.out.below hB).below hBq)).mono ?_
  rintro e w3 ⟨r3, rfl, A3, c3, rfl, ho3, hb⟩
  have hBr := hBq.trans (hb.mono hBq.size)
  have hi1 := hi1.below hBr
  have hi3 : shP.In w3 A3 3 exT := Sh.In.of_own ho3 rfl
  replace hB := hB.trans (hBr.mono hB.size)
  clear hb ho3 hBq hBr
  go_wp2_with fail
  have hBq := (Below.refl w3.heap.size w3).alloc (Nat.le_refl _) (.cells #[.int .i64 0, .int .i64 0, .int .i64 60000, .int .i64 20000, .int .i64 65535, .int .i64 65535] 31)
  refine (HS1.out _ _ _ _ _ (hi1.below hBq) (exI_in w3 _ _ rfl)).mono ?_
  rintro e w4 ⟨rfl, hb⟩
  have hBr := hBq.trans (hb.mono hBq.size)
  have hi3 := hi3.below hBr
  replace hB := hB.trans (hBr.mono hB.size)
  clear hb hi1 hBq hBr
  go_wp2_with fail
  have hBq := (Below.refl w4.heap.size w4).alloc (Nat.le_refl _) (.cells #[.int .i64 0, .int .i64 0, .int .i64 20, .int .i64 40, .int .i64 65535, .int .i64 40] 31)
  refine (HS2.out _ _ _ _ _ (hi3.below hBq) (exT_in w4 _ _ rfl)).mono ?_
  rintro e w5 ⟨rfl, hb⟩
  have hBr := hBq.trans (hb.mono hBq.size)
  replace hB := hB.trans (hBr.mono hB.size)
  clear hb hi3 hBq hBr
  go_wp2_with fail
  go_ret
  exact ⟨rfl, HBW.out.trans (hB.mono HBW.out.size)⟩
end Go.Proofs.YtfehefafgghopaaGreatDoor
