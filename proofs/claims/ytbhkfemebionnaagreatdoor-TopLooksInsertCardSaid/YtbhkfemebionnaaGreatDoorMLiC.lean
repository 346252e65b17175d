/- Lemmas and contracts of functions, joined for the claim: LiRf, LiBw, LiBk. -/
import Derived.Test.YtbhkfemebionnaaGreatDoorMLoA
namespace Go.Proofs.YtbhkfemebionnaaGreatDoor
open Go.RowKit Go.Shelf
attribute [local go_sem] Oper.semAt_some

structure Kq (n₀ l : Nat) (W W' : World) : Prop where
  below : Below n₀ W W'
  cells : ∀ (k : Nat) (c : Array Value) (t : TypeId), RowAt W k c t → RowAt W' k c t
  from' : KeepsFrom (l + 1) W W'
theorem Kq.t {n₀ l : Nat} {A B C : World} (h : Kq n₀ l A B) (k : Kq n₀ l B C) : Kq n₀ l A C :=
  ⟨h.below.trans k.below, fun i c t hi => k.cells i c t (h.cells i c t hi), h.from'.trans k.from'⟩
theorem Kq.put {n₀ l : Nat} (W : World) (o : Obj) (ho : W.heap[l]? = some o) (hc : o.isCells = false) (o' : Obj) (hn : n₀ ≤ l) : Kq n₀ l W (W.putObj l o') := by
  have hlt := (Array.getElem?_eq_some_iff.1 ho).1
  refine ⟨(Below.refl n₀ W).grown (grownBy_putObj' W l o') (by omega) (fun k e => by cases e; exact hn), fun k c t hk => ?_, KeepsFrom.of_grownBy (grownBy_putObj' W l o') (fun j e => by cases e; omega)⟩
  have hne : k ≠ l := by
    rintro rfl
    have hk' : W.heap[k]? = some (.cells c t (0, 0)) := hk
    rw [hk'] at ho
    cases ho
    simp [Obj.isCells] at hc
  exact (World.putObj_heap_other hne).trans hk
theorem Kq.of_below {n₀ l : Nat} {W W' : World} (h : Below W.heap.size W W') (hn : n₀ ≤ W.heap.size) : Kq n₀ l W W' :=
  ⟨h.mono hn, fun _ _ _ hk => hk.below h hk.lt, KeepsFrom.of_below h⟩

def SeqG {α : Type} (F : Fence) (n : Nat) (P : Program) (g : Nat) (lb : Array Value) (encs : α → Array Value) (n₀ : Nat) (S Sp : List α → Prop) (N : Nat) (w : World) : Prop :=
  ∀ (l : Nat) (J Jx : List α → World → Prop) (W : World), Below w.heap.size w W → n₀ ≤ l → l < W.heap.size → OwnFrom W.heap.size J → OwnFrom W.heap.size Jx →
    (∀ pre x W1, J pre W1 → pre.length < N → YieldAt F (n - 1) P l (encs x) W1 fun e W' =>
      (e = .returned (.bool true) ∧ J (pre ++ [x]) W' ∧ Kq n₀ l W1 W') ∨ (e = .returned (.bool false) ∧ Jx (pre ++ [x]) W' ∧ KeepsFrom (l + 1) W1 W')) →
    J [] W →
    CallsIn F n P g (#[.func (.yield l) #[] #[]] ++ lb) W fun e W' => (∃ v, e = .returned v) ∧ ((∃ xs, S xs ∧ J xs W') ∨ (∃ pre, Sp pre ∧ Jx pre W'))

def postG {α : Type} (B : Nat) (I Ix : List α → World → Prop) (xs : List α) (W : World) : Exit → Act → World → Prop
  | .normal, _, W' => Below W.heap.size W W' ∧ I xs W'
  | .ret, _, W' => KeepsFrom B W W' ∧ Ix xs W'
  | _, _, _ => False

theorem rf_law {F : Fence} {n : Nat} {P : Program} {α : Type} {g : Operand} {ps : Array Tmp} {assign body : Code} {Q : Exit → Act → World → Prop} {a : Act} {w : World}
    (hro : F.round = none) (h1 : 1 ≤ n) {gf : Nat} {lb : Array Value} (hg : a.eval g = .func (.func gf) #[] lb) (hFg : F.fn gf) (eg : ∀ args w, (callFunc gf args).run P w = .ok (.enter gf args) w)
    {encs : α → Array Value} {S Sp : List α → Prop} {N : Nat} {w0 : World} {n₀ : Nat} (hn₀ : n₀ ≤ w.heap.size) (hseq : SeqG F (n - 1) P gf lb encs n₀ S Sp N w0) (hb0 : Below w0.heap.size w0 w) (hps : ∀ x, (encs x).size = ps.size)
    (I Ix : List α → World → Prop) (hI : OwnFrom w.heap.size I) (hIx : OwnFrom w.heap.size Ix) (h0 : I [] w) (a₁ : α → Act)
    (hassign : ∀ (l : Nat) (x : α) (W : World) (K : Act → World → Prop), K (a₁ x) W →
      assign.wpIn (F.inRound l) (n - 1 - 1) P (Exit.then K (fun _ _ _ => False)) { tmps := (ps.zip (encs x)).foldl (fun t (p, v) => t.setIfInBounds p v) a.tmps, defers := [] } W)
    (hbody : ∀ (l : Nat) (pre : List α) (x : α) (W : World), I pre W → pre.length < N → body.wpIn (F.inRound l) (n - 1 - 1) P (postG w.heap.size I Ix (pre ++ [x]) W) (a₁ x) W)
    (hdone : ∀ (D : Nat) (xs : List α) (W : World), w.heap.size ≤ D → S xs → I xs W → W.heap[D]? = some (.deferred (some [])) → Q .normal { a with defers := { target := .collected D, args := #[] } :: a.defers } W)
    (hstop : ∀ (D : Nat) (pre : List α) (W : World), w.heap.size ≤ D → Sp pre → Ix pre W → W.heap[D]? = some (.deferred (some [])) → (Code.ret).wpIn F n P Q { a with defers := { target := .collected D, args := #[] } :: a.defers } W) :
    (Code.rangeFunc g ps assign body).wpIn F n P Q a w := by
  refine wpIn_rangeFunc fun fn hfn => ?_
  rw [hro]
  obtain ⟨rec, hrec⟩ : ∃ rec : LoopState → Option Code → Loop, rec = fun st pe => { state := st, pending := pe, fn, tmps := a.tmps, params := ps, assign, body, defers := w.heap.size } := ⟨_, rfl⟩
  obtain ⟨V, hV⟩ : ∃ V, V = (w.alloc (.deferred (some []))).alloc (.loop (rec .ready none)) := ⟨_, rfl⟩
  have hsz : V.heap.size = w.heap.size + 2 := by rw [hV]; simp
  have hlV : V.heap[w.heap.size + 1]? = some (.loop (rec .ready none)) := by
    have h := World.alloc_heap_new (w.alloc (.deferred (some []))) (.loop (rec .ready none))
    rw [World.size_alloc] at h
    rw [hV]; exact h
  have hdV : V.heap[w.heap.size]? = some (.deferred (some [])) := by
    rw [hV]; exact (Below.heap_alloc _ _ _ (by simp)).trans (World.alloc_heap_new w _)
  have hIV : I [] V := by rw [hV]; exact hI.alloc _ (hI.alloc _ h0)
  have hbV : Below w0.heap.size w0 V := by
    rw [hV]; exact hb0.trans ((((Below.refl _ w).alloc (Nat.le_refl _) _).alloc (by simp) _).mono hb0.size)
  refine ⟨w.heap.size + 1, [{ target := .collected w.heap.size, args := #[] }], V, { target := .fn (.func gf) lb, args := #[.func (.yield (w.heap.size + 1)) #[] #[]] }, V, gf, #[.func (.yield (w.heap.size + 1)) #[] #[]] ++ lb, V, ?_, ?_, ?_, ?_, fun _ => h1, ?_⟩
  · rw [hV, hrec]; exact run_enterLoop_outer _ _ _ _ _
  · simp only [resolve, hg]
    simp [go_sem]
  · intro f' hf'
    simp [Target.leads] at hf'
    subst hf'
    exact hFg
  · simp [invoke, go_sem, eg]
  · have other : ∀ {A B : World} {row : Option Nat} {k : Nat} {o : Obj}, k < w.heap.size + 2 → A.heap[k]? = some o → A.grownBy B row → (∀ r, row = some r → V.heap.size ≤ r ∧ ∃ o : Obj, A.heap[r]? = some o ∧ o.isCells = false) → B.heap[k]? = some o :=
      fun hk ho hg hr => (hg.block _ (Array.getElem?_eq_some_iff.1 ho).1 (fun e => by have := (hr _ e.symm).1; omega)).trans ho
    refine (hseq (w.heap.size + 1)
      (fun pre W => I pre W ∧ W.heap[w.heap.size + 1]? = some (.loop (rec .ready none)) ∧ W.heap[w.heap.size]? = some (.deferred (some [])))
      (fun pre W => Ix pre W ∧ W.heap[w.heap.size + 1]? = some (.loop (rec .done (some .ret))) ∧ W.heap[w.heap.size]? = some (.deferred (some [])))
      V hbV (by omega) (by omega)
      (fun s A B row hs hg hr => ⟨hI s A B row hs.1 hg (fun r e => ⟨by have := (hr r e).1; omega, (hr r e).2⟩), other (by omega) hs.2.1 hg hr, other (by omega) hs.2.2 hg hr⟩)
      (fun s A B row hs hg hr => ⟨hIx s A B row hs.1 hg (fun r e => ⟨by have := (hr r e).1; omega, (hr r e).2⟩), other (by omega) hs.2.1 hg hr, other (by omega) hs.2.2 hg hr⟩)
      ?_ ⟨hIV, hlV, hdV⟩).mono ?_
    · rintro pre x W ⟨hi, hl, hd⟩ hlen
      have hlt : w.heap.size + 1 < W.heap.size := (Array.getElem?_eq_some_iff.1 hl).1
      have hy := run_yield (P := P) (args := encs x) hl (by rw [hrec]; exact hps x)
      rw [hrec] at hy
      refine ⟨fn, _, assign, body, hy, roundIn_of_wpIn hfn (hassign _ x W _ ⟨_, run_beginRound hl (by rw [hrec]), ?_⟩)⟩
      clear hy
      obtain ⟨W2, hW2⟩ : ∃ W2, W2 = W.putObj (w.heap.size + 1) (.loop { rec .ready none with state := .busy }) := ⟨_, rfl⟩
      have hl2 : W2.heap[w.heap.size + 1]? = some (.loop { rec .ready none with state := .busy }) := by rw [hW2]; exact World.putObj_heap_same hlt
      have hd2 : W2.heap[w.heap.size]? = some (.deferred (some [])) := by rw [hW2]; exact (World.putObj_heap_other (by omega)).trans hd
      have hi2 : I pre W2 := by rw [hW2]; exact hI.putObj _ hi (by omega) hl rfl
      have hk2 : Kq n₀ (w.heap.size + 1) W W2 := by rw [hW2]; exact Kq.put W _ hl rfl _ (by omega)
      rw [← hW2]
      have hs2 : w.heap.size + 1 < W2.heap.size := (Array.getElem?_eq_some_iff.1 hl2).1
      refine wpIn_mono (hbody _ pre x W2 hi2 hlen) ?_
      have fin : ∀ (jump : Option Code) (W3 : World), W3.heap[w.heap.size + 1]? = some (.loop { rec .ready none with state := .busy }) → W3.heap[w.heap.size]? = some (.deferred (some [])) →
          (Instr.endRound (w.heap.size + 1) jump).run P W3 = .ok (.bool jump.isNone) (W3.putObj (w.heap.size + 1) (.loop (rec (if jump.isNone then .ready else .done) jump))) ∧
          (W3.putObj (w.heap.size + 1) (.loop (rec (if jump.isNone then .ready else .done) jump))).heap[w.heap.size + 1]? = some (.loop (rec (if jump.isNone then .ready else .done) jump)) ∧
          (W3.putObj (w.heap.size + 1) (.loop (rec (if jump.isNone then .ready else .done) jump))).heap[w.heap.size]? = some (.deferred (some [])) := fun jump W3 h3 hd3 => by
        have h := run_endRound (P := P) jump h3
        rw [hrec] at h ⊢
        exact ⟨h, World.putObj_heap_same (Array.getElem?_eq_some_iff.1 h3).1, (World.putObj_heap_other (by omega)).trans hd3⟩
      rintro e a3 W3 hp
      cases e with
      | normal =>
        obtain ⟨hb3, hi3⟩ := hp
        have hl3 := (hb3.block _ (by omega)).trans hl2
        have hd3 := (hb3.block _ (by omega)).trans hd2
        obtain ⟨hr, hl4, hd4⟩ := fin none W3 hl3 hd3
        exact ⟨_, _, hr, .inl ⟨rfl, ⟨hI.putObj _ hi3 (by omega) hl3 rfl, hl4, hd4⟩, (hk2.t (Kq.of_below hb3 (by omega))).t (Kq.put W3 _ hl3 rfl _ (by omega))⟩⟩
      | ret =>
        obtain ⟨hk3, hi3⟩ := hp
        have hl3 := hk3.same _ _ (by omega) hl2 rfl
        have hd3 := hk3.same _ _ (Nat.le_refl _) hd2 rfl
        obtain ⟨hr, hl4, hd4⟩ := fin (some .ret) W3 hl3 hd3
        exact ⟨_, _, hr, .inr ⟨rfl, ⟨hIx.putObj _ hi3 (by omega) hl3 rfl, hl4, hd4⟩, (hk2.from'.trans ⟨hk3.size, fun k o hk => hk3.same k o (by omega)⟩).trans (Kq.put (n₀ := n₀) W3 _ hl3 rfl _ (by omega)).from'⟩⟩
      | exit id => exact hp.elim
      | goto t => exact hp.elim
      | panic ch => exact hp.elim
      | outgrown => exact hp.elim
    · rintro e W2 ⟨⟨v, rfl⟩, (⟨xs, hS, hi, hl, hd⟩ | ⟨pre, hSp, hi, hl, hd⟩)⟩
      · exact ⟨none, _, by have h := run_endLoop (P := P) hl (by rw [hrec]; simp); rw [hrec] at h; exact h, hdone _ xs _ (Nat.le_refl _) hS (hI.putObj _ hi (by omega) hl rfl) ((World.putObj_heap_other (by omega)).trans hd)⟩
      · exact ⟨some .ret, _, by have h := run_endLoop (P := P) hl (by rw [hrec]; simp); rw [hrec] at h; exact h, hstop _ pre _ (Nat.le_refl _) hSp (hIx.putObj _ hi (by omega) hl rfl) ((World.putObj_heap_other (by omega)).trans hd)⟩
end Go.Proofs.YtbhkfemebionnaaGreatDoor

namespace Go.Proofs.YtbhkfemebionnaaGreatDoor
open Go.RowKit Go.Shelf
attribute [local go_sem] Oper.semAt_some

def cvB (X : List CV) (k : Nat) : CV := X.getD k (X.headD cv0)
theorem cvB_at {X : List CV} {k : Nat} (h : k < X.length) : cvB X k = X[k] := by unfold cvB; rw [List.getD_eq_getElem?_getD, List.getElem?_eq_getElem h]; rfl
theorem cvB_mem {X : List CV} (h : 0 < X.length) (k : Nat) : cvB X k ∈ X := by
  by_cases hk : k < X.length
  · rw [cvB_at hk]; exact List.getElem_mem hk
  · unfold cvB
    rw [List.getD_eq_getElem?_getD, List.getElem?_eq_none (by omega)]
    cases X with
    | nil => simp at h
    | cons a l => exact List.mem_cons_self

set_option maxRecDepth 100000 in
set_option maxHeartbeats 8000000 in
theorem sbw1_in (n : Nat) (hn : 1 ≤ n) (y0 Bs n₀ : Nat) (A : Option Addr) (c : Nat) (X : List CV) (hlen : X.length ≤ 1000000) (J Jx : List Nat → World → Prop)
    (W : World) (_hJa : AbidesFrom W.heap.size J)
    (hY : ∀ pre (x : Nat) W, J pre W → pre.length < X.length → YieldAt Fence.wide (n - 1) Tryz.prog y0 #[.int .i64 (x : Int), (cvB X x).c.val] W fun e W' =>
      (e = .returned (.bool true) ∧ J (pre ++ [x]) W' ∧ KpR n₀ 22 W W') ∨ (e = .returned (.bool false) ∧ Jx (pre ++ [x]) W'))
    (_hn₀ : n₀ ≤ W.heap.size) (hBs : RowAt W Bs #[.slice A X.length c] 22)
    (hcell : ∀ V, Below n₀ W V → ∀ k (hk : k < X.length), ∃ b o, A = some ⟨b, o, none⟩ ∧ b < n₀ ∧ V.cell? ⟨b, o + k * 9, none⟩ = some (.string X[k].c.num) ∧ V.cell? ⟨b, o + k * 9 + 1, none⟩ = some (.string X[k].c.lab) ∧ V.cell? ⟨b, o + k * 9 + 2, none⟩ = some (.slice X[k].c.MA X[k].c.mn X[k].c.mc) ∧ V.cell? ⟨b, o + k * 9 + 3, none⟩ = some (.slice X[k].c.PA X[k].c.pn X[k].c.pc) ∧ V.cell? ⟨b, o + k * 9 + 4, none⟩ = some (.bool X[k].c.blk) ∧ V.cell? ⟨b, o + k * 9 + 5, none⟩ = some (.bool X[k].c.mrk) ∧ V.cell? ⟨b, o + k * 9 + 6, none⟩ = some (.int .i64 X[k].c.fol) ∧ V.cell? ⟨b, o + k * 9 + 7, none⟩ = some (.string X[k].c.lnk) ∧ V.cell? ⟨b, o + k * 9 + 8, none⟩ = some (.int .i64 X[k].c.lps))
    (h0 : J [] W) :
    CallsIn Fence.wide n Tryz.prog 93 #[.func (.yield y0) #[] #[], .pointer (some ⟨Bs, 0, none⟩)] W fun e W' => (∃ v, e = .returned v) ∧
      ((∃ ys, ys = dnN X.length 0 ∧ J ys W') ∨ (∃ pre, (∃ j, j < X.length ∧ pre = dnN X.length j) ∧ Jx pre W')) := by
  have HC := Lib.hid hcell
  have HY := Lib.hid hY
  clear hcell hY
  have hc0 := hBs.cell (j := 0) (u := .slice A X.length c) rfl
  have w0 : IntKind.i64.wrap ((X.length : Int) - 1) = (X.length : Int) - 1 := IntWalk.i64_in _ (by omega)
  refine callsIn_of_wp Tryz.func93 rfl trivial ?_ rfl
  simp only [Tryz.ntmps93, List.size_toArray, List.length_cons, List.length_nil, Nat.reduceAdd, Nat.reduceSub, Array.replicate_succ, Array.replicate_zero, List.push_toArray, List.append_toArray, List.nil_append, List.cons_append]
  gi_wp2
  clear hc0
  gi_loopw [3] (fun i wr => ∃ j : Nat, j ≤ X.length ∧ i = .int .i64 ((j : Int) - 1) ∧ J (dnN X.length j) wr ∧ RowAt wr Bs #[.slice A X.length c] 22 ∧ Below n₀ W wr) (fun i _ => (intOf i + 1).toNat)
  case atStart => exact ⟨X.length, Nat.le_refl _, rfl, by rw [dnN_top]; exact h0, hBs, Below.refl _ _⟩
  case round =>
    clear hBs h0
    obtain ⟨j, hj, rfl, hJ, hB, hb⟩ := hrel
    cases j with
    | zero =>
      have HJ := Lib.hid hJ
      have g0 : ¬ (0 : Int) ≤ ((0 : Nat) : Int) - 1 := by omega
      clear hJ
      gi_wp2
      go_end0
      first | exact ⟨⟨_, rfl⟩, .inl HJ.out⟩ | exact ⟨⟨_, rfl⟩, .inl ⟨_, rfl, HJ.out⟩⟩
    | succ m =>
      have hm : m < X.length := by omega
      have Hs := Lib.hid (dnN_step hm)
      have Hm := Lib.hid hm
      obtain ⟨b, o, rfl, hbl, hck⟩ := HC.out wr hb m hm
      have hYj := HY.out (dnN X.length (m + 1)) m wr hJ (by rw [dnN_len]; omega)
      have hxm := cvB_at hm
      rw [hxm] at hYj
      clear hxm hJ
      generalize X[m] = x at *
      obtain ⟨⟨num, lab, MA, mn, mc, PA, pn, pc, blk, mrk, fol, lnk, lps⟩, ms, ts⟩ := x
      obtain ⟨p0, p1, p2, p3, p4, p5, p6, p7, p8⟩ := hck
      dsimp only [Cu.val] at hYj p0 p1 p2 p3 p4 p5 p6 p7 p8
      have l2 := hB.cell (j := 0) (u := .slice (some ⟨b, o, none⟩) X.length c) rfl
      have hj1 : ((m + 1 : Nat) : Int) - 1 = (m : Int) := by omega
      rw [hj1]
      have u0 : (0 : Int) ≤ (m : Int) := by omega
      have u1 : (m : Int) < (X.length : Int) := by omega
      have w1 : IntKind.i64.wrap ((m : Int) - 1) = (m : Int) - 1 := IntWalk.i64_in _ (by omega)
      have HR := Lib.hid hB
      have HB := Lib.hid hb
      clear hj1 hb hB
      obtain ⟨fn, tmps, assign, body, hy, hRd⟩ := hYj
      gi_wp2
      refine hRd.mono ?_
      clear hRd hy p0 p1 p2 p3 p4 p5 p6 p7 p8 l2
      rintro e W3 (⟨rfl, hJ3, hk3⟩ | ⟨rfl, hJx3⟩)
      · have hR3 : RowAt W3 Bs #[.slice (some ⟨b, o, none⟩) X.length c] 22 := hk3.2 _ _ HR.out
        have hB3 := HB.out.trans hk3.1
        rw [← Hs.out] at hJ3
        have HJ3 := Lib.hid hJ3
        have HR3 := Lib.hid hR3
        have HB3 := Lib.hid hB3
        clear hR3 hB3 hJ3 hk3
        gi_wp2
        go_roundw
        case rel => exact ⟨m, by have := Hm.out; omega, by go_num, HJ3.out, HR3.out, HB3.out⟩
        case measure => first | (simp [intOf]; omega) | simp [intOf]
      · gi_wp2
        refine bodyPost_ret (results_none rfl _ _ _) rfl ?_
        refine ⟨⟨_, rfl⟩, .inr ⟨_, ?_, hJx3⟩⟩
        rw [← Hs.out]
        exact ⟨m, Hm.out, rfl⟩

set_option maxHeartbeats 1000000 in
theorem sbw_in (n : Nat) (A : Option Addr) (len c : Nat) (w : World) :
    CallsIn Fence.wide n Tryz.prog 68 #[.slice A len c] w fun e w' => e = .returned (.func (.func 93) #[] #[.pointer (some ⟨w.heap.size, 0, none⟩)]) ∧ w' = w.alloc (.cells #[.slice A len c] 22) := by
  refine callsIn_of_wp Tryz.func68 rfl trivial ?_ rfl
  simp only [Tryz.ntmps68, List.size_toArray, List.length_cons, List.length_nil, Nat.reduceAdd, Nat.reduceSub, Array.replicate_succ, Array.replicate_zero, List.push_toArray, List.append_toArray, List.nil_append, List.cons_append]
  gi_wp2
  go_ret
  exact ⟨by simp, rfl⟩

set_option maxHeartbeats 1000000 in
theorem cbw_in (n : Nat) (no pri : Int) (A : Option Addr) (len c : Nat) (w : World) :
    CallsIn Fence.wide n Tryz.prog 40 #[.agg #[.int .i64 no, .int .i64 pri, .slice A len c]] w fun e w' => e = .returned (.func (.func 67) #[] #[.pointer (some ⟨w.heap.size, 0, none⟩)]) ∧ w' = w.alloc (.cells #[.int .i64 no, .int .i64 pri, .slice A len c] 80) := by
  refine callsIn_of_wp Tryz.func40 rfl trivial ?_ rfl
  simp only [Tryz.ntmps40, List.size_toArray, List.length_cons, List.length_nil, Nat.reduceAdd, Nat.reduceSub, Array.replicate_succ, Array.replicate_zero, List.push_toArray, List.append_toArray, List.nil_append, List.cons_append]
  gi_wp2
  go_ret
  exact ⟨by simp, rfl⟩

theorem sbw_stops (n : Nat) (hn : 1 ≤ n) (Bs n₀ : Nat) (A : Option Addr) (c : Nat) (X : List CV) (hlen : X.length ≤ 1000000) (w0 w : World) (hn₀ : n₀ ≤ w.heap.size) (h0 : n₀ = w0.heap.size) (hX : InC w0 A X.length X) (hb0 : Below n₀ w0 w)
    (hBs : RowAt w Bs #[.slice A X.length c] 22) :
    SeqStopsK Fence.wide n Tryz.prog 93 #[.pointer (some ⟨Bs, 0, none⟩)] (fun x : Nat => #[.int .i64 (x : Int), (cvB X x).c.val]) (KpR n₀ 22) (fun ys => ys = dnN X.length 0) (fun pre => ∃ j, j < X.length ∧ pre = dnN X.length j) X.length w := fun y J Jx W hW hJ _ hY h1 =>
  sbw1_in n hn y Bs n₀ A c X hlen J Jx W hJ hY (Nat.le_trans hn₀ hW.size) (hBs.below hW hBs.lt) (fun V hV k hk => by
    obtain ⟨b, o, e, hb, h⟩ := cu_at hX (by omega)
    have hbb : Below w0.heap.size w0 V := by
      subst h0
      exact hb0.trans ((hW.mono hn₀).trans hV)
    obtain ⟨q0, q1, q2, q3, q4, q5, q6, q7, q8⟩ := h k hk
    exact ⟨b, o, e, by omega, (hbb.cell (p := ⟨b, _, none⟩) hb).trans q0, (hbb.cell (p := ⟨b, _, none⟩) hb).trans q1, (hbb.cell (p := ⟨b, _, none⟩) hb).trans q2, (hbb.cell (p := ⟨b, _, none⟩) hb).trans q3, (hbb.cell (p := ⟨b, _, none⟩) hb).trans q4, (hbb.cell (p := ⟨b, _, none⟩) hb).trans q5, (hbb.cell (p := ⟨b, _, none⟩) hb).trans q6, (hbb.cell (p := ⟨b, _, none⟩) hb).trans q7, (hbb.cell (p := ⟨b, _, none⟩) hb).trans q8⟩) h1
end Go.Proofs.YtbhkfemebionnaaGreatDoor

namespace Go.Proofs.YtbhkfemebionnaaGreatDoor
open Go.RowKit Go.Shelf
attribute [local go_sem] Oper.semAt_some

theorem roundIn_depth {m m' : Nat} {P : Program} {l k : Nat} {f : FuncId} {tmps : Array Value} {assign body : Code} {w : World} {R : Ending → World → Prop} (h : RoundIn Fence.wide m P l f tmps assign body w R) : RoundIn (Fence.wide.inRound k) m' P l f tmps assign body w R :=
  ⟨h.1, fun c cs _ => h.2 c cs (by simp [Fence.room, Fence.wide])⟩
theorem OwnFrom.up {β : Type} {B B' : Nat} {I : β → World → Prop} (h : OwnFrom B I) (hb : B ≤ B') : OwnFrom B' I := fun s A C row hs hg hr => h s A C row hs hg (fun r e => ⟨Nat.le_trans hb (hr r e).1, (hr r e).2⟩)

set_option maxRecDepth 100000 in
set_option maxHeartbeats 8000000 in
theorem cbw_seq (no pri : Int) (A : Option Addr) (c : Nat) (X : List CV) (hlen : X.length ≤ 1000000) (w0 w : World) (Bl n₀ : Nat) (hn₀ : n₀ ≤ w.heap.size) (h0 : n₀ = w0.heap.size) (hX : InC w0 A X.length X) (hb0 : Below n₀ w0 w)
    (hBl : RowAt w Bl #[.int .i64 no, .int .i64 pri, .slice A X.length c] 80) :
    SeqG Fence.wide 5 Tryz.prog 67 #[.pointer (some ⟨Bl, 0, none⟩)] (fun x : Nat => #[.string (cvB X x).c.num]) n₀ (fun ys => ys = dnN X.length 0) (fun pre => ∃ j, j < X.length ∧ pre = dnN X.length j) X.length w := by
  intro y J Jx W hW hny hyl hJ hJx hY hJ0
  have hnW : n₀ ≤ W.heap.size := Nat.le_trans hn₀ hW.size
  have hBlW := hBl.below hW hBl.lt
  have kA : ∀ (V : World) (o : Obj), Below V.heap.size V (V.alloc o) := fun V o => (Below.refl _ _).alloc (Nat.le_refl _) _
  have hBl1 := hBlW.below (kA W (.cells #[.func (.yield y) #[] #[]] 78)) hBlW.lt
  have c2 := hBl1.cell (j := 2) (u := .slice A X.length c) rfl
  have HY := Lib.hid hY
  clear hY
  refine callsIn_of_wp_marks Tryz.func67 rfl trivial ?_ rfl
  simp only [Tryz.ntmps67, List.size_toArray, List.length_cons, List.length_nil, Nat.reduceAdd, Nat.reduceSub, Array.replicate_succ, Array.replicate_zero, List.push_toArray, List.append_toArray, List.nil_append, List.cons_append]
  gi_wp2_with (refine ⟨trivial, ?_⟩; gi_at_call 68; refine (sbw_in _ _ _ _ _).mono ?_; rintro e w' ⟨rfl, rfl⟩)
  try simp only [World.size_alloc]
  clear c2
  have rY := (RowAt.fresh W #[.func (.yield y) #[] #[]] 78).below (kA _ (.cells #[.slice A X.length c] 22)) (RowAt.fresh W _ _).lt
  have rS := RowAt.fresh (W.alloc (.cells #[.func (.yield y) #[] #[]] 78)) #[.slice A X.length c] 22
  simp only [World.size_alloc] at rS
  have hJV : J [] ((W.alloc (.cells #[.func (.yield y) #[] #[]] 78)).alloc (.cells #[.slice A X.length c] 22)) := hJ.alloc _ (hJ.alloc _ hJ0)
  have hbV : Below n₀ w0 ((W.alloc (.cells #[.func (.yield y) #[] #[]] 78)).alloc (.cells #[.slice A X.length c] 22)) := ((hb0.trans (hW.mono hn₀)).alloc hnW _).alloc (by simp; omega) _
  have hsV : ((W.alloc (.cells #[.func (.yield y) #[] #[]] 78)).alloc (.cells #[.slice A X.length c] 22)).heap.size = W.heap.size + 2 := by simp
  generalize hV : ((W.alloc (.cells #[.func (.yield y) #[] #[]] 78)).alloc (.cells #[.slice A X.length c] 22)) = V at *
  clear hV hBl1 kA hBlW
  refine wpIn_rangeFunc_ownH rfl (by omega) (gf := 93) (lb := #[.pointer (some ⟨W.heap.size + 1, 0, none⟩)]) rfl trivial (enters_of Tryz.func93 (by kernel_rfl) rfl)
    (sbw_stops 4 (by omega) (W.heap.size + 1) n₀ A c X hlen w0 V (by omega) h0 hX hbV rS) KpR.t (KpR.b (by omega)) (Below.refl _ _) (fun _ => rfl)
    (fun pre U => J pre U ∧ RowAt U W.heap.size #[.func (.yield y) #[] #[]] 78)
    (fun e pre U => e = .ret ∧ Jx pre U)
    (OwnFrom.and (OwnFrom.up hJ (by omega)) (Own.from (fun s A B row hs hg hr => hs.own hg hr) _))
    (fun e => OwnFrom.and (ownFrom_pure _ _) (OwnFrom.up hJx (by omega)))
    ⟨hJV, rY⟩
    (fun x a' U => ∃ P, a' = { tmps := #[.func (.yield y) #[] #[], .pointer (some ⟨Bl, 0, none⟩), .pointer (some ⟨W.heap.size, 0, none⟩), undef, .pointer (some ⟨P, 0, none⟩), .pointer (some ⟨Bl, 0, none⟩), .pointer (some ⟨Bl, 2, none⟩), .slice A X.length c, .func (.func 93) #[] #[.pointer (some ⟨W.heap.size + 1, 0, none⟩)], .int .i64 (x : Int), (cvB X x).c.val, undef, undef, undef, undef, undef], defers := [] } ∧ RowAt U P (cvB X x).c.cells.toArray 34)
    ?own ?assign ?body ?done ?stop
  case own =>
    intro x a'
    exact Own.from (fun s A' B' row hs hg hr => hs.imp fun P h => ⟨h.1, h.2.own hg hr⟩) _
  case assign =>
    clear rY rS hJV hJ0
    intro lp pre x U K' hI hK'
    have HI := Lib.hid hI
    have HK' := Lib.hid hK'
    clear hI hK'
    generalize hx : cvB X x = x1 at *
    obtain ⟨⟨num, lab, MA, mn, mc, PA, pn, pc, blk, mrk, fol, lnk, lps⟩, ms, ts⟩ := x1
    dsimp only [Cu.val]
    gi_wp2
    have hlt := HI.out.2.lt
    exact HK'.out _ _ ((KeepsOthers.alloc U _).from _) ((KpR.refl n₀ 22 U).alloc (by omega) _) ⟨OwnFrom.alloc hJ _ HI.out.1, HI.out.2.below ((Below.refl U.heap.size U).alloc (Nat.le_refl _) _) hlt⟩ ⟨U.heap.size, rfl, RowAt.fresh U _ _⟩
  case body =>
    clear rY rS hJV hJ0
    rintro lp pre x a' U hlp hrec ⟨hj, hy⟩ ⟨P, rfl, hR⟩ hlt
    have hYx := HY.out pre x U hj hlt
    generalize hx : cvB X x = x1 at *
    obtain ⟨⟨num, lab, MA, mn, mc, PA, pn, pc, blk, mrk, fol, lnk, lps⟩, ms, ts⟩ := x1
    dsimp only [Cu.val] at hYx ⊢
    obtain ⟨fn, tmps, assign, body, hyr, hRd⟩ := hYx
    have c0 := hR.cell (j := 0) (u := .string num) rfl
    have y0 := hy.cell (j := 0) (u := .func (.yield y) #[] #[]) rfl
    have HYr := Lib.hid hy
    clear hj hR hy hx
    gi_wp2
    refine (roundIn_depth hRd).mono ?_
    clear hRd hyr c0 y0
    rintro e W3 (⟨rfl, hJ3, hk3⟩ | ⟨rfl, hJx3, hk3⟩)
    · have HJ3 := Lib.hid hJ3
      have HK3 := Lib.hid hk3
      clear hJ3 hk3
      gi_wp2
      exact ⟨⟨HK3.out.from'.size, fun k o hk => HK3.out.from'.same k o (by omega)⟩, ⟨HK3.out.below, fun k c h => HK3.out.cells k c _ h⟩, HJ3.out, HK3.out.cells _ _ _ HYr.out⟩
    · have HJ3 := Lib.hid hJx3
      have HK3 := Lib.hid hk3
      clear hJx3 hk3
      gi_wp2
      exact ⟨⟨HK3.out.size, fun k o hk => HK3.out.same k o (by omega)⟩, rfl, HJ3.out⟩
  case done =>
    rintro D ys U hD hS ⟨hj, hy⟩ hK
    have HJ := Lib.hid hj
    have HS := Lib.hid hS
    clear hj hy hS hJV rY rS
    gi_wp2
    refine ⟨by simp, .inl ⟨_, _, rfl, run_takeDeferred hK, ?_⟩⟩
    exact ⟨_, results_none rfl _ _ _, ⟨_, rfl⟩, .inl ⟨ys, HS.out, OwnFrom.putObj hJ _ HJ.out (by omega) hK rfl⟩⟩
  case stop =>
    rintro D e pre U hD hpre ⟨rfl, hj⟩ hK
    have HJ := Lib.hid hj
    have HS := Lib.hid hpre
    clear hj hpre hJV rY rS
    gi_wp2
    refine ⟨by simp, .inl ⟨_, _, rfl, run_takeDeferred hK, ?_⟩⟩
    exact ⟨_, results_none rfl _ _ _, ⟨_, rfl⟩, .inr ⟨pre, HS.out, OwnFrom.putObj hJx _ HJ.out (by omega) hK rfl⟩⟩
end Go.Proofs.YtbhkfemebionnaaGreatDoor
