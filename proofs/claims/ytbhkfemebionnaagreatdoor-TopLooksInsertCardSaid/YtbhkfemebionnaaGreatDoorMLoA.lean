/- Lemmas and contracts of functions, joined for the claim: LkBk, LkMo, LkVl. -/
import Derived.Test.YtbhkfemebionnaaGreatDoorMLok
import Derived.Test.YtbhkfemebionnaaGreatDoorMZet
import Derived.Laws.EntriesVeiled
namespace Go.Proofs.YtbhkfemebionnaaGreatDoor
open Go.RowKit Go.Shelf
attribute [local go_sem] Oper.semAt_some

theorem RowAt.own {W W' : World} {row : Option Nat} {B : Nat} {c : Array Value} {t : TypeId} (h : RowAt W B c t) (hg : W.grownBy W' row) (hr : ∀ r, row = some r → ∃ o : Obj, W.heap[r]? = some o ∧ o.isCells = false) : RowAt W' B c t := by
  refine (hg.block B h.lt fun e => ?_).trans h
  obtain ⟨o, ho, hc⟩ := hr B e.symm
  rw [show W.heap[B]? = _ from h] at ho
  cases ho
  simp [Obj.isCells] at hc
def cv0 : CV := ⟨⟨⟨#[]⟩, ⟨#[]⟩, none, 0, 0, none, 0, 0, false, false, 0, ⟨#[]⟩, 0⟩, [], []⟩
def cvX (X : List CV) (k : Nat) : CV := X.getD k cv0
theorem cvX_at {X : List CV} {k : Nat} (h : k < X.length) : cvX X k = X[k] := by unfold cvX; rw [List.getD_eq_getElem?_getD, List.getElem?_eq_getElem h]; rfl
def Cu.val (c : Cu) : Value := .agg #[.string c.num, .string c.lab, .slice c.MA c.mn c.mc, .slice c.PA c.pn c.pc, .bool c.blk, .bool c.mrk, .int .i64 c.fol, .string c.lnk, .int .i64 c.lps]

def dnN (K j : Nat) : List Nat := (List.range' j (K - j)).reverse
theorem dnN_top (K : Nat) : dnN K K = [] := by unfold dnN; simp
theorem dnN_step {K j : Nat} (h : j < K) : dnN K j = dnN K (j + 1) ++ [j] := by
  unfold dnN
  rw [show K - j = (K - (j + 1)) + 1 by omega, List.range'_succ, List.reverse_cons]
theorem dnN_len (K j : Nat) : (dnN K j).length = K - j := by unfold dnN; simp
theorem dnN_mem {K j y : Nat} : y ∈ dnN K j ↔ j ≤ y ∧ y < K := by
  unfold dnN
  rw [List.mem_reverse, List.mem_range'_1]
  omega

def BkS (X : List CV) (K : Nat) (ys : List Nat) : Prop := ∃ j, j ≤ K ∧ ys = dnN K j ∧ (∀ y, j < y → y < K → (cvX X y).c.blk = false) ∧ (j = 0 ∨ (j < K ∧ (cvX X j).c.blk = true))
def BkP (X : List CV) (K : Nat) (ys : List Nat) : Prop := ∃ j, j < K ∧ ys = dnN K j ∧ ∀ y, j < y → y < K → (cvX X y).c.blk = false

set_option maxRecDepth 100000 in
set_option maxHeartbeats 8000000 in
theorem back1_in (n : Nat) (hn : 1 ≤ n) (y0 Ba Bl n₀ : Nat) (no pri : Int) (A : Option Addr) (c : Nat) (X : List CV) (K : Nat) (hKX : K ≤ X.length) (hlen : X.length ≤ 1000000) (J Jx : List Nat → World → Prop)
    (W : World) (_hJa : AbidesFrom W.heap.size J)
    (hY : ∀ pre (x : Nat) W, J pre W → pre.length < K → YieldAt Fence.wide (n - 1) Tryz.prog y0 #[(cvX X x).c.val] W fun e W' =>
      (e = .returned (.bool true) ∧ J (pre ++ [x]) W' ∧ KpR n₀ 24 W W') ∨ (e = .returned (.bool false) ∧ Jx (pre ++ [x]) W'))
    (_hn₀ : n₀ ≤ W.heap.size) (hBa : Boxed W Ba 3 (.int .i64 ((K : Int) - 1))) (hBl : RowAt W Bl #[.int .i64 no, .int .i64 pri, .slice A X.length c] 24)
    (hcell : ∀ V, Below n₀ W V → ∀ k (hk : k < X.length), ∃ b o, A = some ⟨b, o, none⟩ ∧ b < n₀ ∧ V.cell? ⟨b, o + k * 9, none⟩ = some (.string X[k].c.num) ∧ V.cell? ⟨b, o + k * 9 + 1, none⟩ = some (.string X[k].c.lab) ∧ V.cell? ⟨b, o + k * 9 + 2, none⟩ = some (.slice X[k].c.MA X[k].c.mn X[k].c.mc) ∧ V.cell? ⟨b, o + k * 9 + 3, none⟩ = some (.slice X[k].c.PA X[k].c.pn X[k].c.pc) ∧ V.cell? ⟨b, o + k * 9 + 4, none⟩ = some (.bool X[k].c.blk) ∧ V.cell? ⟨b, o + k * 9 + 5, none⟩ = some (.bool X[k].c.mrk) ∧ V.cell? ⟨b, o + k * 9 + 6, none⟩ = some (.int .i64 X[k].c.fol) ∧ V.cell? ⟨b, o + k * 9 + 7, none⟩ = some (.string X[k].c.lnk) ∧ V.cell? ⟨b, o + k * 9 + 8, none⟩ = some (.int .i64 X[k].c.lps))
    (h0 : J [] W) :
    CallsIn Fence.wide n Tryz.prog 106 #[.func (.yield y0) #[] #[], .pointer (some ⟨Ba, 0, none⟩), .pointer (some ⟨Bl, 0, none⟩)] W fun e W' => (∃ v, e = .returned v) ∧
      ((∃ ys, BkS X K ys ∧ J ys W') ∨ (∃ pre, BkP X K pre ∧ Jx pre W')) := by
  have HC := Lib.hid hcell
  have HY := Lib.hid hY
  clear hcell hY
  have hc0 := hBa.cell
  have HX := Lib.hid hKX
  clear hKX
  refine callsIn_of_wp Tryz.func106 rfl trivial ?_ rfl
  simp only [Tryz.ntmps106, List.size_toArray, List.length_cons, List.length_nil, Nat.reduceAdd, Nat.reduceSub, Array.replicate_succ, Array.replicate_zero, List.push_toArray, List.append_toArray, List.nil_append, List.cons_append]
  gi_wp2
  clear hc0 hBa
  gi_loopw [4] (fun i wr => ∃ j : Nat, j ≤ K ∧ i = .int .i64 ((j : Int) - 1) ∧ J (dnN K j) wr ∧ RowAt wr Bl #[.int .i64 no, .int .i64 pri, .slice A X.length c] 24 ∧ Below n₀ W wr ∧ ∀ y, j ≤ y → y < K → (cvX X y).c.blk = false) (fun i _ => (intOf i + 1).toNat)
  case atStart => exact ⟨K, Nat.le_refl _, rfl, by rw [dnN_top]; exact h0, hBl, Below.refl _ _, fun y h1 h2 => by omega⟩
  case round =>
    clear hBl h0
    obtain ⟨j, hj, rfl, hJ, hB, hb, hno⟩ := hrel
    have HNo := Lib.hid hno
    clear hno
    cases j with
    | zero =>
      have HJ := Lib.hid hJ
      have g0 : ¬ (0 : Int) ≤ ((0 : Nat) : Int) - 1 := by omega
      clear hJ
      gi_wp2
      go_end0
      exact ⟨⟨_, rfl⟩, .inl ⟨_, ⟨0, Nat.zero_le _, rfl, fun y h1 h2 => HNo.out y (by omega) h2, .inl rfl⟩, HJ.out⟩⟩
    | succ m =>
      have hm : m < X.length := by have := HX.out; omega
      have Hs := Lib.hid (dnN_step (show m < K by omega))
      have Hm := Lib.hid (show m < K by omega)
      obtain ⟨b, o, rfl, hbl, hck⟩ := HC.out wr hb m hm
      have hYj := HY.out (dnN K (m + 1)) m wr hJ (by rw [dnN_len]; omega)
      have hxm := cvX_at hm
      have HBt := Lib.hid (show (cvX X m).c.blk = true → BkS X K (dnN K m) from fun h => ⟨m, by omega, rfl, fun y h1 h2 => HNo.out y (by omega) h2, .inr ⟨by omega, h⟩⟩)
      have HBf := Lib.hid (show (cvX X m).c.blk = false → ∀ y, m ≤ y → y < K → (cvX X y).c.blk = false from fun h y h1 h2 => by
        rcases Nat.lt_or_eq_of_le h1 with h3 | h3
        · exact HNo.out y h3 h2
        · subst h3; exact h)
      have HBp := Lib.hid (show BkP X K (dnN K m) from ⟨m, by omega, rfl, fun y h1 h2 => HNo.out y (by omega) h2⟩)
      have HC4 := Lib.hid (show ∀ V, Below n₀ W V → V.cell? ⟨b, o + m * 9 + 4, none⟩ = some (.bool X[m].c.blk) from fun V hV => by
        obtain ⟨b2, o2, e2, -, -, -, -, -, p4, -⟩ := HC.out V hV m hm
        injection e2 with e2
        injection e2 with e3 e4
        subst e3 e4
        exact p4)
      rw [hxm] at hYj HBt HBf
      clear hxm HNo hJ
      generalize X[m] = x at *
      obtain ⟨⟨num, lab, MA, mn, mc, PA, pn, pc, blk, mrk, fol, lnk, lps⟩, ms, ts⟩ := x
      obtain ⟨p0, p1, p2, p3, p4, p5, p6, p7, p8⟩ := hck
      dsimp only [Cu.val] at hYj p0 p1 p2 p3 p4 p5 p6 p7 p8 HBt HBf HC4
      have l2 := hB.cell (j := 2) (u := .slice (some ⟨b, o, none⟩) X.length c) rfl
      have hj1 : ((m + 1 : Nat) : Int) - 1 = (m : Int) := by omega
      rw [hj1]
      have u0 : (0 : Int) ≤ (m : Int) := by omega
      have u1 : (m : Int) < (X.length : Int) := by omega
      have w1 : IntKind.i64.wrap ((m : Int) - 1) = (m : Int) - 1 := IntWalk.i64_in _ (by omega)
      have HR := Lib.hid hB
      have HB := Lib.hid hb
      clear hj1 hb hB
      obtain ⟨fn, tmps, assign, body, hy, hRd⟩ := hYj
      gi_wp2
      refine hRd.mono ?_
      clear hRd hy p0 p1 p2 p3 p4 p5 p6 p7 p8 l2
      rintro e W3 (⟨rfl, hJ3, hk3⟩ | ⟨rfl, hJx3⟩)
      · have hR3 : RowAt W3 Bl #[.int .i64 no, .int .i64 pri, .slice (some ⟨b, o, none⟩) X.length c] 24 := hk3.2 _ _ HR.out
        have hB3 := HB.out.trans hk3.1
        have l2 := hR3.cell (j := 2) (u := .slice (some ⟨b, o, none⟩) X.length c) rfl
        have p4 := HC4.out W3 hB3
        rw [← Hs.out] at hJ3
        have HJ3 := Lib.hid hJ3
        have HR3 := Lib.hid hR3
        have HB3 := Lib.hid hB3
        clear hR3 hB3 hJ3 hk3
        cases blk with
        | true =>
          gi_wp2
          refine bodyPost_ret (results_none rfl _ _ _) rfl ?_
          exact ⟨⟨_, rfl⟩, .inl ⟨_, HBt.out (by simp), HJ3.out⟩⟩
        | false =>
          gi_wp2
          go_roundw
          case rel => exact ⟨m, by have := Hm.out; omega, by go_num, HJ3.out, HR3.out, HB3.out, HBf.out (by simp)⟩
          case measure => first | (simp [intOf]; omega) | simp [intOf]
      · gi_wp2
        refine bodyPost_ret (results_none rfl _ _ _) rfl ?_
        refine ⟨⟨_, rfl⟩, .inr ⟨_, ?_, hJx3⟩⟩
        rw [← Hs.out]
        exact HBp.out

set_option maxHeartbeats 1000000 in
theorem back_in (n : Nat) (no pri : Int) (A : Option Addr) (len c : Nat) (k : Int) (w : World) :
    CallsIn Fence.wide n Tryz.prog 86 #[.agg #[.int .i64 no, .int .i64 pri, .slice A len c], .int .i64 k] w fun e w' => e = .returned (.func (.func 106) #[] #[.pointer (some ⟨w.heap.size + 1, 0, none⟩), .pointer (some ⟨w.heap.size, 0, none⟩)]) ∧ w' = (w.alloc (.cells #[.int .i64 no, .int .i64 pri, .slice A len c] 24)).alloc (.cells #[.int .i64 k] 3) := by
  refine callsIn_of_wp Tryz.func86 rfl trivial ?_ rfl
  simp only [Tryz.ntmps86, List.size_toArray, List.length_cons, List.length_nil, Nat.reduceAdd, Nat.reduceSub, Array.replicate_succ, Array.replicate_zero, List.push_toArray, List.append_toArray, List.nil_append, List.cons_append]
  gi_wp2
  go_ret
  exact ⟨by simp, rfl⟩

theorem back_stops (n : Nat) (hn : 1 ≤ n) (Ba Bl n₀ : Nat) (no pri : Int) (A : Option Addr) (c : Nat) (X : List CV) (K : Nat) (hKX : K ≤ X.length) (hlen : X.length ≤ 1000000) (w0 w : World) (hn₀ : n₀ ≤ w.heap.size) (h0 : n₀ = w0.heap.size) (hX : InC w0 A X.length X) (hb0 : Below n₀ w0 w)
    (hBa : Boxed w Ba 3 (.int .i64 ((K : Int) - 1))) (hBl : RowAt w Bl #[.int .i64 no, .int .i64 pri, .slice A X.length c] 24) :
    SeqStopsK Fence.wide n Tryz.prog 106 #[.pointer (some ⟨Ba, 0, none⟩), .pointer (some ⟨Bl, 0, none⟩)] (fun x : Nat => #[(cvX X x).c.val]) (KpR n₀ 24) (BkS X K) (BkP X K) K w := fun y J Jx W hW hJ _ hY h1 =>
  back1_in n hn y Ba Bl n₀ no pri A c X K hKX hlen J Jx W hJ hY (Nat.le_trans hn₀ hW.size) ((hW.block Ba hBa.lt).trans hBa) (hBl.below hW hBl.lt) (fun V hV k hk => by
    obtain ⟨b, o, e, hb, h⟩ := cu_at hX (by omega)
    have hbb : Below w0.heap.size w0 V := by
      subst h0
      exact hb0.trans ((hW.mono hn₀).trans hV)
    obtain ⟨q0, q1, q2, q3, q4, q5, q6, q7, q8⟩ := h k hk
    exact ⟨b, o, e, by omega, (hbb.cell (p := ⟨b, _, none⟩) hb).trans q0, (hbb.cell (p := ⟨b, _, none⟩) hb).trans q1, (hbb.cell (p := ⟨b, _, none⟩) hb).trans q2, (hbb.cell (p := ⟨b, _, none⟩) hb).trans q3, (hbb.cell (p := ⟨b, _, none⟩) hb).trans q4, (hbb.cell (p := ⟨b, _, none⟩) hb).trans q5, (hbb.cell (p := ⟨b, _, none⟩) hb).trans q6, (hbb.cell (p := ⟨b, _, none⟩) hb).trans q7, (hbb.cell (p := ⟨b, _, none⟩) hb).trans q8⟩) h1
end Go.Proofs.YtbhkfemebionnaaGreatDoor

namespace Go.Proofs.YtbhkfemebionnaaGreatDoor
open Go.RowKit

set_option maxRecDepth 100000 in
set_option maxHeartbeats 16000000 in
theorem ntmove_any (num lab : ByteArray) (MA : Option Addr) (mn mc : Nat) (PA : Option Addr) (pn pc : Nat) (blk mrk : Bool) (fol : Int) (lnk : ByteArray) (lps : Int) (ms : List Mv) (d bb : Int) (w : World) (hl : shMv.In w MA mn ms) (hok : MvsOK ms) (hp : parOK d bb) :
    Calls Tryz.prog 87 #[.agg #[.string num, .string lab, .slice MA mn mc, .slice PA pn pc, .bool blk, .bool mrk, .int .i64 fol, .string lnk, .int .i64 lps], .agg #[.int .i64 d, .int .i64 bb]] w fun e w' => ∃ (v : Int × Int) (f : Bool), e = .returned (.tuple #[.agg #[.int .i64 v.1, .int .i64 v.2], .bool f]) ∧ (f = true → mvS (ms.map Mv.q) (d, bb) = some v) ∧ (f = false → mvS (ms.map Mv.q) (d, bb) = none) ∧ Below w.heap.size w w' := by
  obtain ⟨W, hW⟩ : ∃ W, W = ((w.alloc (.cells #[.string num, .string lab, .slice MA mn mc, .slice PA pn pc, .bool blk, .bool mrk, .int .i64 fol, .string lnk, .int .i64 lps] 34)).alloc (.cells #[.int .i64 d, .int .i64 bb] 39)).alloc (.cells #[.int .i64 0, .int .i64 0] 41) := ⟨_, rfl⟩
  obtain ⟨hB0, hK0⟩ := box3 #[.string num, .string lab, .slice MA mn mc, .slice PA pn pc, .bool blk, .bool mrk, .int .i64 fol, .string lnk, .int .i64 lps] 34 #[.int .i64 d, .int .i64 bb] 39 #[.int .i64 0, .int .i64 0] 41 w W hW
  have hV : RowAt W (w.heap.size + 1 + 1) #[.int .i64 0, .int .i64 0] 41 := by
    rw [hW]
    have h := RowAt.fresh ((w.alloc (.cells #[.string num, .string lab, .slice MA mn mc, .slice PA pn pc, .bool blk, .bool mrk, .int .i64 fol, .string lnk, .int .i64 lps] 34)).alloc (.cells #[.int .i64 d, .int .i64 bb] 39)) #[.int .i64 0, .int .i64 0] 41
    simpa using h
  have HK := Lib.hid (show ∀ V, Below W.heap.size W V → V.cell? ⟨w.heap.size, 2, none⟩ = some (.slice MA mn mc) ∧ V.cell? ⟨w.heap.size + 1, 0, none⟩ = some (.int .i64 d) ∧ V.cell? ⟨w.heap.size + 1, 1, none⟩ = some (.int .i64 bb) ∧ RowAt V (w.heap.size + 1 + 1) #[.int .i64 0, .int .i64 0] 41 from fun V h => ⟨(hK0 V h).1 2 _ rfl, (hK0 V h).2.1 0 _ rfl, (hK0 V h).2.1 1 _ rfl, hV.below h hV.lt⟩)
  have hlen : mn = ms.length := hl.1
  have HS := Lib.hid (nbs_any d bb MA mn mc ms W (hl.below hB0) hp (fun m hm => (hok.ok m hm).1) hok.up (by have := hok.few; omega))
  have HL := Lib.hid (hl.below hB0)
  have HU := Lib.hid hok.up
  have HF := Lib.hid hok.few
  have HW := Lib.hid hW
  have HB0 := Lib.hid hB0
  have hs3 : W.heap.size = w.heap.size + 1 + 1 + 1 := by rw [hW]; simp
  have HS3 := Lib.hid hs3
  have HLn := Lib.hid hlen
  have hB := Below.refl W.heap.size W
  obtain ⟨c2, q0, q1, hR⟩ := HK.out _ hB
  clear hW hB0 hK0 hV hl hok hp hs3 hlen hR
  go_enter Tryz.func87, Tryz.ntmps87
  go_wp2_with fail
  rw [← HW.out]
  refine HS.out.mono ?_
  rintro e w1 ⟨k, f, rfl, hft, hff, hb⟩
  obtain ⟨c2, q0, q1, hR⟩ := HK.out _ hb
  have hB1 := hb
  have HB1 := Lib.hid hb
  have HT := Lib.hid hft
  have HFf := Lib.hid hff
  have hz := hb.size
  clear hb hft hff q0 q1
  cases f with
  | true =>
    obtain ⟨hk, hpq⟩ := HT.out rfl
    obtain ⟨b, o, rfl, hbl, hcell⟩ := mv_at HL.out (by omega)
    obtain ⟨-, -, p2, p3, -⟩ := hcell k hk
    have HV := Lib.hid (mv_hit hk HU.out hpq)
    generalize ms[k].pa = pa at *
    generalize ms[k].le = le at *
    have p2 := (hB1.cell (p := ⟨b, o + k * 5 + 2, none⟩) hbl).trans p2
    have p3 := (hB1.cell (p := ⟨b, o + k * 5 + 3, none⟩) hbl).trans p3
    have i0 : (0 : Int) ≤ (k : Int) := by omega
    have i1 : (k : Int) < (mn : Int) := by have := HLn.out; omega
    have f0 := hR.fr 0
    have f1 := hR.fr 1
    have r0 := hR.cell (j := 0) rfl
    have r1 := hR.cell (j := 1) rfl
    clear hcell hpq hbl
    have HR := Lib.hid hR
    clear hR
    go_wp2_with fail
    (try simp only [Exit.inBlock, Exit.then])
    have hr2 := (HR.out.set 0 (.int .i64 pa)).set 1 (.int .i64 le)
    have z0 := hr2.cell (j := 0) (u := .int .i64 pa) rfl
    have z1 := hr2.cell (j := 1) (u := .int .i64 le) rfl
    clear hr2
    refine bodyPost_ret (v := .tuple #[.agg #[.int .i64 pa, .int .i64 le], .bool true]) ?_ rfl ?_
    · rw [results_cell_tmp rfl]
      go_simp
    · have h9 := HB0.out.trans (hB1.mono HB0.out.size)
      refine ⟨(pa, le), true, rfl, fun _ => HV.out, fun h => (by cases h), ?_⟩
      exact (h9.setCell (p := ⟨w.heap.size + 1 + 1, 0, none⟩) (by simp; omega) _).setCell (p := ⟨w.heap.size + 1 + 1, 1, none⟩) (by simp; omega) _
  | false =>
    have HR := Lib.hid hR
    have HNo := Lib.hid (mv_none (p := (d, bb)) (HFf.out rfl))
    clear hR
    go_wp2_with fail
    refine (nhome_any w1).mono ?_
    rintro e w2 ⟨rfl, hb2⟩
    have hR2 := HR.out.below hb2 HR.out.lt
    have hB2 := HB1.out.trans (hb2.mono HB1.out.size)
    have f0 := hR2.fr 0
    have f1 := hR2.fr 1
    have r0 := hR2.cell (j := 0) rfl
    have r1 := hR2.cell (j := 1) rfl
    have HR2 := Lib.hid hR2
    have HBB := Lib.hid hB2
    clear hR2 hb2 hB2
    go_wp2_with fail
    (try simp only [Exit.inBlock, Exit.then])
    have hr2 := (HR2.out.set 0 (.int .i64 (-1))).set 1 (.int .i64 0)
    have z0 := hr2.cell (j := 0) (u := .int .i64 (-1)) rfl
    have z1 := hr2.cell (j := 1) (u := .int .i64 0) rfl
    clear hr2
    refine bodyPost_ret (v := .tuple #[.agg #[.int .i64 (-1), .int .i64 0], .bool false]) ?_ rfl ?_
    · rw [results_cell_tmp rfl]
      go_simp
    · have h9 := HB0.out.trans (HBB.out.mono HB0.out.size)
      refine ⟨(-1, 0), false, rfl, fun h => (by cases h), fun _ => HNo.out, ?_⟩
      exact (h9.setCell (p := ⟨w.heap.size + 1 + 1, 0, none⟩) (by simp; omega) _).setCell (p := ⟨w.heap.size + 1 + 1, 1, none⟩) (by simp; omega) _
end Go.Proofs.YtbhkfemebionnaaGreatDoor

namespace Go.Proofs.YtbhkfemebionnaaGreatDoor
open Go.RowKit Go.Shelf
attribute [local go_sem] Oper.semAt_some

theorem cvX_ok {X : List CV} (h : ∀ x ∈ X, MvsOK x.ms) (k : Nat) : MvsOK (cvX X k).ms := by
  by_cases hk : k < X.length
  · rw [cvX_at hk]; exact h _ (List.getElem_mem hk)
  · unfold cvX
    rw [List.getD_eq_getElem?_getD, List.getElem?_eq_none (by omega)]
    exact ⟨Nat.zero_le _, fun m hm => (by cases hm), List.Pairwise.nil⟩
theorem cvX_in {w : World} {A : Option Addr} {n : Nat} {X : List CV} (h : InC w A n X) (k : Nat) : shMv.In w (cvX X k).c.MA (cvX X k).c.mn (cvX X k).ms := by
  by_cases hk : k < X.length
  · rw [cvX_at hk]; exact (h.2 _ (List.getElem_mem hk)).1
  · unfold cvX
    rw [List.getD_eq_getElem?_getD, List.getElem?_eq_none (by omega)]
    exact Sh.In.nil w none

theorem sk_rev {X : List CV} {m : Nat} (h : m < X.length) : ((X.map CV.sk).take (m + 1)).reverse = (cvX X m).sk :: ((X.map CV.sk).take m).reverse := by
  rw [List.take_succ_eq_append_getElem (by simpa using h), List.reverse_append, cvX_at h]
  simp
theorem vl_go {X : List CV} {p : Int × Int} {K j : Nat} (hK : K ≤ X.length) (hjK : j ≤ K) (h : ∀ y, j ≤ y → y < K → mvS (cvX X y).sk.2 p = none ∧ (cvX X y).c.blk = false) :
    vlS ((X.map CV.sk).take K).reverse p = vlS ((X.map CV.sk).take j).reverse p := by
  obtain ⟨i, rfl⟩ : ∃ i, K = j + i := ⟨K - j, by omega⟩
  induction i with
  | zero => rfl
  | succ i ih =>
    have h1 := h (j + i) (by omega) (by omega)
    rw [show j + (i + 1) = (j + i) + 1 by omega, sk_rev (by omega)]
    show (match mvS (cvX X (j + i)).sk.2 p with
      | some v => v
      | none => bif (cvX X (j + i)).sk.1 then (-1, 0) else vlS _ p) = _
    rw [h1.1, show (cvX X (j + i)).sk.1 = false from h1.2]
    exact ih (by omega) (by omega) (fun y a b => h y a (by omega))
theorem vl_done {X : List CV} {p : Int × Int} {K : Nat} {ys : List Nat} (hK : K ≤ X.length) (hS : BkS X K ys) (h : ∀ y ∈ ys, mvS (cvX X y).sk.2 p = none) : vlS ((X.map CV.sk).take K).reverse p = (-1, 0) := by
  obtain ⟨j, hj, rfl, hno, he⟩ := hS
  rcases he with rfl | ⟨hjk, hb⟩
  · rcases Nat.eq_zero_or_pos K with rfl | hp
    · rfl
    · rw [vl_go (j := 1) hK hp (fun y a b => ⟨h y (dnN_mem.2 ⟨by omega, b⟩), hno y (by omega) b⟩), sk_rev (by omega)]
      show (match mvS (cvX X 0).sk.2 p with
        | some v => v
        | none => bif (cvX X 0).sk.1 then (-1, 0) else vlS _ p) = _
      rw [h 0 (dnN_mem.2 ⟨Nat.le_refl _, hp⟩)]
      cases (cvX X 0).sk.1 <;> rfl
  · rw [vl_go (j := j + 1) hK hjk (fun y a b => ⟨h y (dnN_mem.2 ⟨by omega, b⟩), hno y (by omega) b⟩), sk_rev (by omega)]
    show (match mvS (cvX X j).sk.2 p with
      | some v => v
      | none => bif (cvX X j).sk.1 then (-1, 0) else vlS _ p) = _
    rw [h j (dnN_mem.2 ⟨Nat.le_refl _, hjk⟩), show (cvX X j).sk.1 = true from hb]
    rfl
theorem vl_stop {X : List CV} {p v : Int × Int} {K x : Nat} {pre : List Nat} (hK : K ≤ X.length) (hS : BkP X K (pre ++ [x])) (h : ∀ y ∈ pre, mvS (cvX X y).sk.2 p = none) (hx : mvS (cvX X x).sk.2 p = some v) : vlS ((X.map CV.sk).take K).reverse p = v := by
  obtain ⟨j, hj, he, hno⟩ := hS
  rw [dnN_step hj] at he
  obtain ⟨rfl, e2⟩ := List.append_inj' he rfl
  injection e2 with e2
  subst e2
  rw [vl_go (j := x + 1) hK hj (fun y a b => ⟨h y (dnN_mem.2 ⟨a, b⟩), hno y (by omega) b⟩), sk_rev (by omega)]
  show (match mvS (cvX X x).sk.2 p with
    | some v => v
    | none => bif (cvX X x).sk.1 then (-1, 0) else vlS _ p) = _
  rw [hx]
theorem KeepsFrom.of_below {B : Nat} {W W' : World} (hb : Below W.heap.size W W') : KeepsFrom B W W' :=
  KeepsFrom.of_grownBy (row := none) ⟨hb.os, hb.tape, hb.output, hb.size, fun k hk _ => hb.block k hk⟩ (fun r e => by cases e)
set_option maxRecDepth 100000 in
set_option maxHeartbeats 16000000 in
theorem ntvalue_any (no pri : Int) (A : Option Addr) (n c : Nat) (X : List CV) (K : Nat) (d bb : Int) (w : World) (hX : InC w A n X) (hok : ∀ x ∈ X, MvsOK x.ms) (hK : K ≤ X.length) (hp : parOK d bb) (hlen : X.length ≤ 1000000) :
    Calls Tryz.prog 61 #[.agg #[.int .i64 no, .int .i64 pri, .slice A n c], .int .i64 ((K : Int) - 1), .agg #[.int .i64 d, .int .i64 bb]] w fun e w' => e = .returned (.agg #[.int .i64 (vlS ((X.map CV.sk).take K).reverse (d, bb)).1, .int .i64 (vlS ((X.map CV.sk).take K).reverse (d, bb)).2]) ∧ Below w.heap.size w w' := by
  have hn2 : n = X.length := hX.len
  subst hn2
  obtain ⟨E, hE⟩ : ∃ E, E = vlS ((X.map CV.sk).take K).reverse (d, bb) := ⟨_, rfl⟩
  rw [← hE]
  have HE := Lib.hid hE
  clear hE
  have HX := Lib.hid hX
  have HOk := Lib.hid hok
  have HP := Lib.hid hp
  have HKX := Lib.hid hK
  clear hok hp
  refine (callsIn_wide (n := 5)).1 ?_
  refine callsIn_of_wp_marks Tryz.func61 rfl trivial ?_ rfl
  simp only [Tryz.ntmps61, List.size_toArray, List.length_cons, List.length_nil, Nat.reduceAdd, Nat.reduceSub, Array.replicate_succ, Array.replicate_zero, List.push_toArray, List.append_toArray, List.nil_append, List.cons_append]
  gi_wp2_with (refine ⟨trivial, ?_⟩; gi_at_call 86; refine (back_in _ _ _ _ _ _ _ _).mono ?_; rintro e w' ⟨rfl, rfl⟩)
  try simp only [World.size_alloc]
  have rP := (RowAt.fresh (w.alloc (.cells #[.int .i64 no, .int .i64 pri, .slice A X.length c] 24)) #[.int .i64 d, .int .i64 bb] 39)
  have rV := (RowAt.fresh ((w.alloc (.cells #[.int .i64 no, .int .i64 pri, .slice A X.length c] 24)).alloc (.cells #[.int .i64 d, .int .i64 bb] 39)) #[.int .i64 0, .int .i64 0] 41)
  have rL := (RowAt.fresh (((w.alloc (.cells #[.int .i64 no, .int .i64 pri, .slice A X.length c] 24)).alloc (.cells #[.int .i64 d, .int .i64 bb] 39)).alloc (.cells #[.int .i64 0, .int .i64 0] 41)) #[.int .i64 no, .int .i64 pri, .slice A X.length c] 24)
  have bK := Boxed.new ((((w.alloc (.cells #[.int .i64 no, .int .i64 pri, .slice A X.length c] 24)).alloc (.cells #[.int .i64 d, .int .i64 bb] 39)).alloc (.cells #[.int .i64 0, .int .i64 0] 41)).alloc (.cells #[.int .i64 no, .int .i64 pri, .slice A X.length c] 24)) 3 (.int .i64 ((K : Int) - 1))
  simp only [World.size_alloc] at rP rV rL bK
  have hB5 : Below w.heap.size w (((((w.alloc (.cells #[.int .i64 no, .int .i64 pri, .slice A X.length c] 24)).alloc (.cells #[.int .i64 d, .int .i64 bb] 39)).alloc (.cells #[.int .i64 0, .int .i64 0] 41)).alloc (.cells #[.int .i64 no, .int .i64 pri, .slice A X.length c] 24)).alloc (.cells #[.int .i64 ((K : Int) - 1)] 3)) := ((((((Below.refl _ w).alloc (Nat.le_refl _) _).alloc (by simp) _).alloc (by simp; omega) _).alloc (by simp; omega) _).alloc (by simp; omega) _)
  have hz5 : (((((w.alloc (.cells #[.int .i64 no, .int .i64 pri, .slice A X.length c] 24)).alloc (.cells #[.int .i64 d, .int .i64 bb] 39)).alloc (.cells #[.int .i64 0, .int .i64 0] 41)).alloc (.cells #[.int .i64 no, .int .i64 pri, .slice A X.length c] 24)).alloc (.cells #[.int .i64 ((K : Int) - 1)] 3)).heap.size = w.heap.size + 1 + 1 + 1 + 1 + 1 := by simp
  have kA : ∀ (V : World) (o : Obj), Below V.heap.size V (V.alloc o) := fun V o => (Below.refl _ _).alloc (Nat.le_refl _) _
  have rP5 : RowAt (((((w.alloc (.cells #[.int .i64 no, .int .i64 pri, .slice A X.length c] 24)).alloc (.cells #[.int .i64 d, .int .i64 bb] 39)).alloc (.cells #[.int .i64 0, .int .i64 0] 41)).alloc (.cells #[.int .i64 no, .int .i64 pri, .slice A X.length c] 24)).alloc (.cells #[.int .i64 ((K : Int) - 1)] 3)) (w.heap.size + 1) #[.int .i64 d, .int .i64 bb] 39 := (((rP.below (kA _ _) rP.lt).below (kA _ _) (rP.below (kA _ _) rP.lt).lt).below (kA _ _) ((rP.below (kA _ _) rP.lt).below (kA _ _) (rP.below (kA _ _) rP.lt).lt).lt)
  have rV5 : RowAt (((((w.alloc (.cells #[.int .i64 no, .int .i64 pri, .slice A X.length c] 24)).alloc (.cells #[.int .i64 d, .int .i64 bb] 39)).alloc (.cells #[.int .i64 0, .int .i64 0] 41)).alloc (.cells #[.int .i64 no, .int .i64 pri, .slice A X.length c] 24)).alloc (.cells #[.int .i64 ((K : Int) - 1)] 3)) (w.heap.size + 1 + 1) #[.int .i64 0, .int .i64 0] 41 := ((rV.below (kA _ _) rV.lt).below (kA _ _) (rV.below (kA _ _) rV.lt).lt)
  have rL5 : RowAt (((((w.alloc (.cells #[.int .i64 no, .int .i64 pri, .slice A X.length c] 24)).alloc (.cells #[.int .i64 d, .int .i64 bb] 39)).alloc (.cells #[.int .i64 0, .int .i64 0] 41)).alloc (.cells #[.int .i64 no, .int .i64 pri, .slice A X.length c] 24)).alloc (.cells #[.int .i64 ((K : Int) - 1)] 3)) (w.heap.size + 1 + 1 + 1) #[.int .i64 no, .int .i64 pri, .slice A X.length c] 24 := rL.below (kA _ _) rL.lt
  clear rP rV rL kA
  generalize hW5 : (((((w.alloc (.cells #[.int .i64 no, .int .i64 pri, .slice A X.length c] 24)).alloc (.cells #[.int .i64 d, .int .i64 bb] 39)).alloc (.cells #[.int .i64 0, .int .i64 0] 41)).alloc (.cells #[.int .i64 no, .int .i64 pri, .slice A X.length c] 24)).alloc (.cells #[.int .i64 ((K : Int) - 1)] 3)) = V5 at *
  have HB5 := Lib.hid hB5
  refine wpIn_rangeFunc_ownH rfl (by omega) (gf := 106) (lb := #[.pointer (some ⟨w.heap.size + 1 + 1 + 1 + 1, 0, none⟩), .pointer (some ⟨w.heap.size + 1 + 1 + 1, 0, none⟩)]) rfl trivial (enters_of Tryz.func106 (by kernel_rfl) rfl)
    (back_stops 4 (by omega) (w.heap.size + 1 + 1 + 1 + 1) (w.heap.size + 1 + 1 + 1) w.heap.size no pri A c X K hK hlen w V5 hB5.size rfl hX hB5 bK rL5) KpR.t (KpR.b hB5.size) (Below.refl _ _) (fun _ => rfl)
    (fun pre W => ((∀ y ∈ pre, mvS (cvX X y).sk.2 (d, bb) = none) ∧ RowAt W (w.heap.size + 1) #[.int .i64 d, .int .i64 bb] 39 ∧ RowAt W (w.heap.size + 1 + 1) #[.int .i64 0, .int .i64 0] 41) ∧ Below w.heap.size w W)
    (fun e pre W => (e = .ret ∧ ∃ (pre0 : List Nat) (x : Nat) (v : Int × Int), pre = pre0 ++ [x] ∧ (∀ y ∈ pre0, mvS (cvX X y).sk.2 (d, bb) = none) ∧ mvS (cvX X x).sk.2 (d, bb) = some v ∧ RowAt W (w.heap.size + 1 + 1) #[.int .i64 v.1, .int .i64 v.2] 41) ∧ Below w.heap.size w W)
    (OwnFrom.and (Own.from (fun (s : List Nat) A B row hs hg hr => ⟨hs.1, hs.2.1.own hg hr, hs.2.2.own hg hr⟩) _) (ownFrom_below (Nat.le_refl _) hB5.size))
    (fun e => OwnFrom.and (Own.from (fun (s : List Nat) A B row hs hg hr => ⟨hs.1, hs.2.imp fun p h => h.imp fun x h => h.imp fun v h => ⟨h.1, h.2.1, h.2.2.1, h.2.2.2.own hg hr⟩⟩) _) (ownFrom_below (Nat.le_refl _) hB5.size))
    ⟨⟨fun y hy => (by cases hy), rP5, rV5⟩, hB5⟩
    (fun x a' W => ∃ P, a' = { tmps := #[.agg #[.int .i64 no, .int .i64 pri, .slice A X.length c], .int .i64 ((K : Int) - 1), .agg #[.int .i64 d, .int .i64 bb], .pointer (some ⟨w.heap.size, 0, none⟩), undef, .pointer (some ⟨w.heap.size + 1, 0, none⟩), .pointer (some ⟨w.heap.size + 1 + 1, 0, none⟩), .pointer (some ⟨P, 0, none⟩), undef, undef, .agg #[.int .i64 no, .int .i64 pri, .slice A X.length c], .int .i64 ((K : Int) - 1), .func (.func 106) #[] #[.pointer (some ⟨w.heap.size + 1 + 1 + 1 + 1, 0, none⟩), .pointer (some ⟨w.heap.size + 1 + 1 + 1, 0, none⟩)], (cvX X x).c.val, undef, undef, undef, undef, undef, undef, undef, undef, undef], defers := [] } ∧ RowAt W P (cvX X x).c.cells.toArray 34)
    ?own ?assign ?body ?done ?stop
  case own =>
    intro x a'
    exact Own.from (fun s A' B' row hs hg hr => hs.imp fun P h => ⟨h.1, h.2.own hg hr⟩) _
  case assign =>
    intro lp pre x W K' hI hK'
    obtain ⟨⟨h1, h2, h3⟩, h4⟩ := hI
    have HI := Lib.hid (And.intro (And.intro h1 (And.intro h2 h3)) h4)
    have HK' := Lib.hid hK'
    clear h1 h2 h3 hK'
    generalize hx : cvX X x = x1 at *
    obtain ⟨⟨num, lab, MA, mn, mc, PA, pn, pc, blk, mrk, fol, lnk, lps⟩, ms, ts⟩ := x1
    dsimp only [Cu.val]
    gi_wp2
    have hI := HI.out
    have hb1 : Below W.heap.size W (W.alloc (.cells #[.string num, .string lab, .slice MA mn mc, .slice PA pn pc, .bool blk, .bool mrk, .int .i64 fol, .string lnk, .int .i64 lps] 34)) := (Below.refl _ _).alloc (Nat.le_refl _) _
    exact HK'.out _ _ ((KeepsOthers.alloc W _).from _) ((KpR.refl w.heap.size 24 W).alloc h4.size _) ⟨⟨hI.1.1, hI.1.2.1.below hb1 hI.1.2.1.lt, hI.1.2.2.below hb1 hI.1.2.2.lt⟩, h4.trans (hb1.mono h4.size)⟩ ⟨W.heap.size, rfl, RowAt.fresh W _ _⟩
  case body =>
    clear hX bK rP5 rV5 rL5 hB5
    rintro lp pre x a' W hlp hrec ⟨⟨hn, hP, hV⟩, hB⟩ ⟨P, rfl, hR⟩ hlt
    have hmi := (cvX_in HX.out x).below hB
    have hmo := cvX_ok HOk.out x
    obtain ⟨x1, hx⟩ : ∃ x1, cvX X x = x1 := ⟨_, rfl⟩
    have Hx := Lib.hid hx
    rw [hx] at hmi hmo hR ⊢
    clear hx
    obtain ⟨⟨num, lab, MA, mn, mc, PA, pn, pc, blk, mrk, fol, lnk, lps⟩, ms, ts⟩ := x1
    dsimp only [Cu.val] at hmi hmo ⊢
    have hR : RowAt W P #[.string num, .string lab, .slice MA mn mc, .slice PA pn pc, .bool blk, .bool mrk, .int .i64 fol, .string lnk, .int .i64 lps] 34 := hR
    have HM := Lib.hid (ntmove_any num lab MA mn mc PA pn pc blk mrk fol lnk lps ms d bb W hmi hmo HP.out)
    have HN := Lib.hid hn
    have HPr := Lib.hid hP
    have HVv := Lib.hid hV
    have HBb := Lib.hid hB
    have p0 := hP.cell (j := 0) (u := .int .i64 d) rfl
    have p1 := hP.cell (j := 1) (u := .int .i64 bb) rfl
    have c0 := hR.cell (j := 0) (u := .string num) rfl
    have c1 := hR.cell (j := 1) (u := .string lab) rfl
    have c2 := hR.cell (j := 2) (u := .slice MA mn mc) rfl
    have c3 := hR.cell (j := 3) (u := .slice PA pn pc) rfl
    have c4 := hR.cell (j := 4) (u := .bool blk) rfl
    have c5 := hR.cell (j := 5) (u := .bool mrk) rfl
    have c6 := hR.cell (j := 6) (u := .int .i64 fol) rfl
    have c7 := hR.cell (j := 7) (u := .string lnk) rfl
    have c8 := hR.cell (j := 8) (u := .int .i64 lps) rfl
    clear hmi hmo hn hP hV hR hB hlt
    gi_wp2_with fail
    refine ⟨trivial, ?_⟩
    gi_at_call 87
    refine (callsIn_wide.2 HM.out).mono ?_
    clear c0 c1 c2 c3 c4 c5 c6 c7 c8 p0 p1
    rintro e w7 ⟨⟨va, vb⟩, f, rfl, hft, hff, hb7⟩
    have h8 : Below W.heap.size W (w7.alloc (.cells #[.int .i64 va, .int .i64 vb] 41)) := hb7.alloc hb7.size _
    have hV8 := HVv.out.below h8 HVv.out.lt
    have hP8 := HPr.out.below h8 HPr.out.lt
    have hB8 := HBb.out.trans (h8.mono HBb.out.size)
    have H8 := Lib.hid (And.intro h8 (And.intro hV8 (And.intro hP8 hB8)))
    have HFt := Lib.hid hft
    have HFf := Lib.hid hff
    have hV7 := HVv.out.below hb7 HVv.out.lt
    have f0 := hV7.fr 0
    have f1 := hV7.fr 1
    have r0 := hV7.cell (j := 0) (u := .int .i64 0) rfl
    have r1 := hV7.cell (j := 1) (u := .int .i64 0) rfl
    have HV7 := Lib.hid hV7
    have HB7 := Lib.hid (And.intro hb7 (HBb.out.trans (hb7.mono HBb.out.size)))
    have hne : w.heap.size + 1 + 1 < w7.heap.size := by
      have h1 := HVv.out.lt
      have h2 := hb7.size
      omega
    clear hft hff hV8 hP8 hB8 h8 hb7 hV7
    cases f with
    | false =>
      clear f0 f1 r0 r1
      gi_wp2
      refine ⟨KeepsFrom.of_below H8.out.1, KpR.of_below H8.out.1 HBb.out.size, ⟨fun y hy => ?_, H8.out.2.2.1, H8.out.2.1⟩, H8.out.2.2.2⟩
      rcases List.mem_append.1 hy with hy | hy
      · exact HN.out y hy
      · obtain rfl : y = x := by simpa using hy
        rw [Hx.out]
        exact HFf.out (by simp)
    | true =>
      gi_wp2
      have hr : RowAt ((w7.setCell ⟨w.heap.size + 1 + 1, 0, none⟩ (.int .i64 va)).setCell ⟨w.heap.size + 1 + 1, 1, none⟩ (.int .i64 vb)) (w.heap.size + 1 + 1) #[.int .i64 va, .int .i64 vb] 41 := by
        have h := (HV7.out.set 0 (.int .i64 va)).set 1 (.int .i64 vb)
        simpa using h
      refine ⟨(KeepsFrom.of_below HB7.out.1).trans ((((KeepsOthers.setCell w7 _ _).trans (KeepsOthers.setCell _ _ _)).trans (KeepsOthers.alloc _ _)).from _), ⟨rfl, pre, x, (va, vb), rfl, HN.out, by rw [Hx.out]; exact HFt.out (by simp), hr.below ((Below.refl _ _).alloc (Nat.le_refl _) _) hr.lt⟩, ?_⟩
      exact ((HB7.out.2.setCell (p := ⟨w.heap.size + 1 + 1, 0, none⟩) (by simp; omega) _).setCell (p := ⟨w.heap.size + 1 + 1, 1, none⟩) (by simp; omega) _).alloc (by simp; omega) _
  case done =>
    rintro D ys W hD hS ⟨⟨hn, hP, hV⟩, hB⟩ hK
    have hE : E = (-1, 0) := HE.out.trans (vl_done HKX.out hS hn)
    subst hE
    have HV := Lib.hid hV
    have HB := Lib.hid hB
    have HKk := Lib.hid hK
    clear hn hP hV hB hK hS
    gi_wp2_with fail
    refine ⟨trivial, ?_⟩
    gi_at_call 88
    refine (callsIn_wide.2 (nhome_any W)).mono ?_
    rintro e w2 ⟨rfl, hb2⟩
    have hV2 := HV.out.below hb2 HV.out.lt
    have HB2 := Lib.hid (HB.out.trans (hb2.mono HB.out.size))
    have HV2 := Lib.hid hV2
    have f0 := hV2.fr 0
    have f1 := hV2.fr 1
    have r0 := hV2.cell (j := 0) (u := .int .i64 0) rfl
    have r1 := hV2.cell (j := 1) (u := .int .i64 0) rfl
    have HK2 := Lib.hid ((hb2.block D (Array.getElem?_eq_some_iff.1 HKk.out).1).trans HKk.out)
    clear hb2 hV2
    gi_wp2
    have hr : RowAt ((w2.setCell ⟨w.heap.size + 1 + 1, 0, none⟩ (.int .i64 (-1))).setCell ⟨w.heap.size + 1 + 1, 1, none⟩ (.int .i64 0)) (w.heap.size + 1 + 1) #[.int .i64 (-1), .int .i64 0] 41 := by
      have h := (HV2.out.set 0 (.int .i64 (-1))).set 1 (.int .i64 0)
      simpa using h
    have hK' := ((KeepsOthers.setCell w2 ⟨w.heap.size + 1 + 1, 0, none⟩ (.int .i64 (-1))).trans (KeepsOthers.setCell _ ⟨w.heap.size + 1 + 1, 1, none⟩ (.int .i64 0))).same D _ HK2.out rfl
    refine ⟨by simp, .inl ⟨_, _, rfl, run_takeDeferred hK', ?_⟩⟩
    have hr3 := hr.own (grownBy_putObj' _ D (.deferred none)) (fun r e => by cases e; exact ⟨_, hK', rfl⟩)
    have k0 := hr3.cell (j := 0) (u := .int .i64 (-1)) rfl
    have k1 := hr3.cell (j := 1) (u := .int .i64 0) rfl
    refine ⟨.agg #[.int .i64 (-1), .int .i64 0], ?_, rfl, ?_⟩
    · rw [res_cell1 rfl]
      go_simp
    · exact ((HB2.out.setCell (p := ⟨w.heap.size + 1 + 1, 0, none⟩) (by simp; omega) _).setCell (p := ⟨w.heap.size + 1 + 1, 1, none⟩) (by simp; omega) _).trans (belowK_b (w := w) (Nat.le_refl _) _ D _ (.deferred none) (by have := HB5.out.size; omega) hK' rfl rfl)
  case stop =>
    rintro D e pre W hD hpre ⟨⟨rfl, pre0, x, v, rfl, hn, hv, hV⟩, hB⟩ hK
    have hE : E = v := HE.out.trans (vl_stop HKX.out hpre hn hv)
    subst hE
    have HV := Lib.hid hV
    have HBB := Lib.hid (hB.trans (belowK_b (w := w) (Nat.le_refl _) W D _ (.deferred none) (by have := HB5.out.size; omega) hK rfl rfl))
    clear hn hv hB
    gi_wp2
    refine ⟨by simp, .inl ⟨_, _, rfl, run_takeDeferred hK, ?_⟩⟩
    have hr3 := HV.out.own (grownBy_putObj' _ D (.deferred none)) (fun r e => by cases e; exact ⟨_, hK, rfl⟩)
    have k0 := hr3.cell (j := 0) (u := .int .i64 E.1) rfl
    have k1 := hr3.cell (j := 1) (u := .int .i64 E.2) rfl
    refine ⟨.agg #[.int .i64 E.1, .int .i64 E.2], ?_, rfl, HBB.out⟩
    rw [res_cell1 rfl]
    go_simp
end Go.Proofs.YtbhkfemebionnaaGreatDoor
