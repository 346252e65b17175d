/- Lemmas and contracts of functions, joined for the claim: LiSr, LiIn, LiSo, LiPu. -/
import Derived.Test.YtbhkfemebionnaaGreatDoorMLawP
import Derived.Test.YtbhkfemebionnaaGreatDoorMLiA
namespace Go.Proofs.YtbhkfemebionnaaGreatDoor
open Go.RowKit

section
variable {α : Type}

def SegS (cf : α → α → Int) (a b : Nat) (d : List α) : Prop := ∀ (i j : Nat) x y, a ≤ i → i < j → j < b → d[i]? = some x → d[j]? = some y → 0 ≤ cf y x

structure PI (a b : Nat) (d d' : List α) : Prop where
  len : d'.length = d.length
  out : ∀ k, k < a ∨ b ≤ k → d'[k]? = d[k]?
  inn : ∀ k, a ≤ k → k < b → ∃ q, a ≤ q ∧ q < b ∧ d'[k]? = d[q]?
  perm : d'.Perm d
theorem PI.refl (a b : Nat) (d : List α) : PI a b d d := ⟨rfl, fun _ _ => rfl, fun k h1 h2 => ⟨k, h1, h2, rfl⟩, List.Perm.refl _⟩
theorem PI.trans {a b : Nat} {d d' d'' : List α} (h : PI a b d d') (k : PI a b d' d'') : PI a b d d'' :=
  ⟨k.len.trans h.len, fun i hi => (k.out i hi).trans (h.out i hi), fun i h1 h2 => by
    obtain ⟨q, q1, q2, e⟩ := k.inn i h1 h2
    obtain ⟨p, p1, p2, e'⟩ := h.inn q q1 q2
    exact ⟨p, p1, p2, e.trans e'⟩, k.perm.trans h.perm⟩
theorem swap_at {d : List α} {i j : Nat} {x y : α} (hi : d[i]? = some x) (hj : d[j]? = some y) (k : Nat) : ((d.set i y).set j x)[k]? = if k = j then some x else if k = i then some y else d[k]? := by
  have li := (List.getElem?_eq_some_iff.1 hi).1
  have lj := (List.getElem?_eq_some_iff.1 hj).1
  by_cases h1 : k = j
  · subst h1
    rw [if_pos rfl, List.getElem?_set_self (by rw [List.length_set]; exact lj)]
  · rw [if_neg h1, List.getElem?_set_ne (fun e => h1 e.symm)]
    by_cases h2 : k = i
    · subst h2
      rw [if_pos rfl, List.getElem?_set_self li]
    · rw [if_neg h2, List.getElem?_set_ne (fun e => h2 e.symm)]
theorem PI.swap {a b : Nat} {d : List α} {i j : Nat} {x y : α} (hi : d[i]? = some x) (hj : d[j]? = some y) (i0 : a ≤ i) (i1 : i < b) (j0 : a ≤ j) (j1 : j < b) : PI a b d ((d.set i y).set j x) := by
  have li := (List.getElem?_eq_some_iff.1 hi).1
  have lj := (List.getElem?_eq_some_iff.1 hj).1
  have ei := (List.getElem?_eq_some_iff.1 hi).2
  have ej := (List.getElem?_eq_some_iff.1 hj).2
  refine ⟨by rw [List.length_set, List.length_set], fun k hk => ?_, fun k h1 h2 => ?_, ?_⟩
  · rw [swap_at hi hj, if_neg (by omega), if_neg (by omega)]
  · rw [swap_at hi hj]
    by_cases e1 : k = j
    · exact ⟨i, i0, i1, by rw [if_pos e1, hi]⟩
    · by_cases e2 : k = i
      · exact ⟨j, j0, j1, by rw [if_neg e1, if_pos e2, hj]⟩
      · exact ⟨k, h1, h2, by rw [if_neg e1, if_neg e2]⟩
  · have := List.set_set_perm li lj
    rw [ei, ej] at this
    exact this

def InsI (cf : α → α → Int) (a i j : Nat) (d : List α) : Prop :=
  (∀ (p q : Nat) x y, a ≤ p → p < q → q ≤ i → p ≠ j → q ≠ j → d[p]? = some x → d[q]? = some y → 0 ≤ cf y x) ∧
  (∀ (q : Nat) x y, j < q → q ≤ i → d[j]? = some x → d[q]? = some y → 0 ≤ cf y x)
theorem InsI.start {cf : α → α → Int} {a i : Nat} {d : List α} (h : SegS cf a i d) : InsI cf a i i d :=
  ⟨fun p q x y h1 h2 h3 h4 h5 hp hq => h p q x y h1 h2 (by omega) hp hq, fun q x y h1 h2 _ _ => by omega⟩
theorem InsI.stop {cf : α → α → Int} {a i j : Nat} {d : List α} (hT : ∀ x y z, 0 ≤ cf y x → 0 ≤ cf z y → 0 ≤ cf z x) (h : InsI cf a i j d) (hji : j ≤ i) (hs : j = a ∨ ∃ x y, d[j]? = some x ∧ d[j - 1]? = some y ∧ 0 ≤ cf x y) (haj : a ≤ j) : SegS cf a (i + 1) d := by
  intro p q x y h1 h2 h3 hp hq
  by_cases e1 : p = j
  · subst e1
    exact h.2 q x y h2 (by omega) hp hq
  · by_cases e2 : q = j
    · subst e2
      rcases hs with hs | ⟨u, v, hu, hv, hn⟩
      · omega
      · rw [hq] at hu
        injection hu with hu
        subst hu
        by_cases e3 : p = q - 1
        · subst e3
          rw [hp] at hv
          injection hv with hv
          subst hv
          exact hn
        · exact hT x v y (h.1 p (q - 1) x v h1 (by omega) (by omega) e1 (by omega) hp hv) hn
    · exact h.1 p q x y h1 h2 (by omega) e1 e2 hp hq
theorem InsI.down {cf : α → α → Int} {a i j : Nat} {d : List α} (hA : ∀ x y, cf x y < 0 → 0 ≤ cf y x) (h : InsI cf a i j d) (haj : a < j) (hji : j ≤ i) {x y : α} (hx : d[j]? = some x) (hy : d[j - 1]? = some y) (hlt : cf x y < 0) : InsI cf a i (j - 1) ((d.set j y).set (j - 1) x) := by
  refine ⟨fun p q u v h1 h2 h3 h4 h5 hp hq => ?_, fun q u v h1 h2 hp hq => ?_⟩
  · rw [swap_at hx hy, if_neg h4] at hp
    rw [swap_at hx hy, if_neg h5] at hq
    by_cases e1 : p = j
    · rw [if_pos e1] at hp
      injection hp with hp
      subst hp
      rw [if_neg (by omega)] at hq
      exact h.1 (j - 1) q _ v (by omega) (by omega) h3 (by omega) (by omega) hy hq
    · rw [if_neg e1] at hp
      by_cases e2 : q = j
      · rw [if_pos e2] at hq
        injection hq with hq
        subst hq
        exact h.1 p (j - 1) u _ h1 (by omega) (by omega) (by omega) (by omega) hp hy
      · rw [if_neg e2] at hq
        exact h.1 p q u v h1 h2 h3 e1 e2 hp hq
  · rw [swap_at hx hy, if_pos rfl] at hp
    injection hp with hp
    subst hp
    rw [swap_at hx hy, if_neg (by omega)] at hq
    by_cases e2 : q = j
    · rw [if_pos e2] at hq
      injection hq with hq
      subst hq
      exact hA _ _ hlt
    · rw [if_neg e2] at hq
      exact h.2 q _ v (by omega) h2 hx hq
end
theorem World.grownBy_setq (w : World) (B j : Nat) (v : Value) : w.grownBy (w.setCell ⟨B, j, none⟩ v) (some B) :=
  ⟨rfl, rfl, rfl, by simp, fun i _ hi => Below.heap_setCell _ _ _ _ (fun e => hi (congrArg some e))⟩

def putCu (w : World) (B i : Nat) (v : Cu) : World := (((((((((w).setCell ⟨B, i * 9, none⟩ (.string v.num)).setCell ⟨B, i * 9 + 1, none⟩ (.string v.lab)).setCell ⟨B, i * 9 + 2, none⟩ (.slice v.MA v.mn v.mc)).setCell ⟨B, i * 9 + 3, none⟩ (.slice v.PA v.pn v.pc)).setCell ⟨B, i * 9 + 4, none⟩ (.bool v.blk)).setCell ⟨B, i * 9 + 5, none⟩ (.bool v.mrk)).setCell ⟨B, i * 9 + 6, none⟩ (.int .i64 v.fol)).setCell ⟨B, i * 9 + 7, none⟩ (.string v.lnk)).setCell ⟨B, i * 9 + 8, none⟩ (.int .i64 v.lps)
theorem putCu_cells {w : World} {B i : Nat} {d : List Cu} (h : Cells w B (shCu.vs d)) (hi : i < d.length) (v : Cu) : Cells (putCu w B i v) B (shCu.vs (d.set i v)) := by
  have hl : (shCu.vs d).length = d.length * 9 := shCu.vs_length d
  have h := (((((((((h).set (i * 9) (.string v.num) (by (try simp only [List.length_set]); rw [hl]; omega)).set (i * 9 + 1) (.string v.lab) (by (try simp only [List.length_set]); rw [hl]; omega)).set (i * 9 + 2) (.slice v.MA v.mn v.mc) (by (try simp only [List.length_set]); rw [hl]; omega)).set (i * 9 + 3) (.slice v.PA v.pn v.pc) (by (try simp only [List.length_set]); rw [hl]; omega)).set (i * 9 + 4) (.bool v.blk) (by (try simp only [List.length_set]); rw [hl]; omega)).set (i * 9 + 5) (.bool v.mrk) (by (try simp only [List.length_set]); rw [hl]; omega)).set (i * 9 + 6) (.int .i64 v.fol) (by (try simp only [List.length_set]); rw [hl]; omega)).set (i * 9 + 7) (.string v.lnk) (by (try simp only [List.length_set]); rw [hl]; omega)).set (i * 9 + 8) (.int .i64 v.lps) (by (try simp only [List.length_set]); rw [hl]; omega)
  rw [vs_setC d i hi v] at h
  exact h
theorem putCu_gr {w0 w : World} {B : Nat} (h : w0.grownBy w (some B)) (i : Nat) (v : Cu) : w0.grownBy (putCu w B i v) (some B) := (((((((((h).trans (World.grownBy_setq _ B (i * 9) (.string v.num))).trans (World.grownBy_setq _ B (i * 9 + 1) (.string v.lab))).trans (World.grownBy_setq _ B (i * 9 + 2) (.slice v.MA v.mn v.mc))).trans (World.grownBy_setq _ B (i * 9 + 3) (.slice v.PA v.pn v.pc))).trans (World.grownBy_setq _ B (i * 9 + 4) (.bool v.blk))).trans (World.grownBy_setq _ B (i * 9 + 5) (.bool v.mrk))).trans (World.grownBy_setq _ B (i * 9 + 6) (.int .i64 v.fol))).trans (World.grownBy_setq _ B (i * 9 + 7) (.string v.lnk))).trans (World.grownBy_setq _ B (i * 9 + 8) (.int .i64 v.lps))
theorem cu_row {w : World} {B : Nat} {d : List Cu} (h : Cells w B (shCu.vs d)) {i : Nat} (hi : i < d.length) : w.cell? ⟨B, i * 9, none⟩ = some (.string d[i].num) ∧ w.cell? ⟨B, i * 9 + 1, none⟩ = some (.string d[i].lab) ∧ w.cell? ⟨B, i * 9 + 2, none⟩ = some (.slice d[i].MA d[i].mn d[i].mc) ∧ w.cell? ⟨B, i * 9 + 3, none⟩ = some (.slice d[i].PA d[i].pn d[i].pc) ∧ w.cell? ⟨B, i * 9 + 4, none⟩ = some (.bool d[i].blk) ∧ w.cell? ⟨B, i * 9 + 5, none⟩ = some (.bool d[i].mrk) ∧ w.cell? ⟨B, i * 9 + 6, none⟩ = some (.int .i64 d[i].fol) ∧ w.cell? ⟨B, i * 9 + 7, none⟩ = some (.string d[i].lnk) ∧ w.cell? ⟨B, i * 9 + 8, none⟩ = some (.int .i64 d[i].lps) := ⟨h.at_ (cu_cells d i hi 0 (.string d[i].num) (by decide) rfl), h.at_ (cu_cells d i hi 1 (.string d[i].lab) (by decide) rfl), h.at_ (cu_cells d i hi 2 (.slice d[i].MA d[i].mn d[i].mc) (by decide) rfl), h.at_ (cu_cells d i hi 3 (.slice d[i].PA d[i].pn d[i].pc) (by decide) rfl), h.at_ (cu_cells d i hi 4 (.bool d[i].blk) (by decide) rfl), h.at_ (cu_cells d i hi 5 (.bool d[i].mrk) (by decide) rfl), h.at_ (cu_cells d i hi 6 (.int .i64 d[i].fol) (by decide) rfl), h.at_ (cu_cells d i hi 7 (.string d[i].lnk) (by decide) rfl), h.at_ (cu_cells d i hi 8 (.int .i64 d[i].lps) (by decide) rfl)⟩
theorem cu_rowf {w : World} {B : Nat} {d : List Cu} (h : Cells w B (shCu.vs d)) {i : Nat} (hi : i < d.length) : w.frozen? ⟨B, i * 9, none⟩ = false ∧ w.frozen? ⟨B, i * 9 + 1, none⟩ = false ∧ w.frozen? ⟨B, i * 9 + 2, none⟩ = false ∧ w.frozen? ⟨B, i * 9 + 3, none⟩ = false ∧ w.frozen? ⟨B, i * 9 + 4, none⟩ = false ∧ w.frozen? ⟨B, i * 9 + 5, none⟩ = false ∧ w.frozen? ⟨B, i * 9 + 6, none⟩ = false ∧ w.frozen? ⟨B, i * 9 + 7, none⟩ = false ∧ w.frozen? ⟨B, i * 9 + 8, none⟩ = false := ⟨h.fr (cu_cells d i hi 0 (.string d[i].num) (by decide) rfl), h.fr (cu_cells d i hi 1 (.string d[i].lab) (by decide) rfl), h.fr (cu_cells d i hi 2 (.slice d[i].MA d[i].mn d[i].mc) (by decide) rfl), h.fr (cu_cells d i hi 3 (.slice d[i].PA d[i].pn d[i].pc) (by decide) rfl), h.fr (cu_cells d i hi 4 (.bool d[i].blk) (by decide) rfl), h.fr (cu_cells d i hi 5 (.bool d[i].mrk) (by decide) rfl), h.fr (cu_cells d i hi 6 (.int .i64 d[i].fol) (by decide) rfl), h.fr (cu_cells d i hi 7 (.string d[i].lnk) (by decide) rfl), h.fr (cu_cells d i hi 8 (.int .i64 d[i].lps) (by decide) rfl)⟩

structure SRc (w0 : World) (B : Nat) (d : List Cu) (w : World) : Prop where
  gr : w0.grownBy w (some B)
  row : Cells w B (shCu.vs d)
theorem SRc.below {w0 w w' : World} {B : Nat} {d : List Cu} (h : SRc w0 B d w) (hb : Below w.heap.size w w') : SRc w0 B d w' :=
  ⟨h.gr.trans ⟨hb.os, hb.tape, hb.output, hb.size, fun i hi _ => hb.block i hi⟩, h.row.below hb h.row.1⟩
theorem SRc.swap {w0 w : World} {B : Nat} {d : List Cu} (h : SRc w0 B d w) {i j : Nat} (hi : i < d.length) (hj : j < d.length) (x y : Cu) : SRc w0 B ((d.set i y).set j x) (putCu (putCu w B i y) B j x) :=
  ⟨putCu_gr (putCu_gr h.gr i y) j x, putCu_cells (putCu_cells h.row hi y) (by rw [List.length_set]; exact hj) x⟩
end Go.Proofs.YtbhkfemebionnaaGreatDoor

namespace Go.Proofs.YtbhkfemebionnaaGreatDoor
open Go.RowKit

def cfC (x y : Cu) : Int := ordI (numV x.num.data.toList) (numV y.num.data.toList)
def CuN (x : Cu) : Prop := x.num.size ≤ 9223372036854775807 ∧ numE x.num.data.toList = 0
set_option maxRecDepth 100000 in
set_option maxHeartbeats 8000000 in
theorem nwith1_any (x y : Cu) (hx : CuN x) (hy : CuN y) (w : World) :
    Calls Tryz.prog 65 #[x.val, y.val] w fun e w' => e = .returned (.int .i64 (cfC x y)) ∧ Below w.heap.size w w' := by
  obtain ⟨xnum, xlab, xMA, xmn, xmc, xPA, xpn, xpc, xblk, xmrk, xfol, xlnk, xlps⟩ := x
  obtain ⟨ynum, ylab, yMA, ymn, ymc, yPA, ypn, ypc, yblk, ymrk, yfol, ylnk, ylps⟩ := y
  obtain ⟨hx1, hx2⟩ := hx
  obtain ⟨hy1, hy2⟩ := hy
  dsimp only at hx1 hx2 hy1 hy2
  show Calls Tryz.prog 65 #[.agg #[.string xnum, .string xlab, .slice xMA xmn xmc, .slice xPA xpn xpc, .bool xblk, .bool xmrk, .int .i64 xfol, .string xlnk, .int .i64 xlps], .agg #[.string ynum, .string ylab, .slice yMA ymn ymc, .slice yPA ypn ypc, .bool yblk, .bool ymrk, .int .i64 yfol, .string ylnk, .int .i64 ylps]] w fun e w' => e = .returned (.int .i64 (ordI (numV xnum.data.toList) (numV ynum.data.toList))) ∧ Below w.heap.size w w'
  have HC := Lib.hid (fun V => ccompare_any xnum ynum V hx1 hx2 hy1 hy2)
  have HB0 := Lib.hid (show Below w.heap.size w ((w.alloc (.cells #[.string xnum, .string xlab, .slice xMA xmn xmc, .slice xPA xpn xpc, .bool xblk, .bool xmrk, .int .i64 xfol, .string xlnk, .int .i64 xlps] 34)).alloc (.cells #[.string ynum, .string ylab, .slice yMA ymn ymc, .slice yPA ypn ypc, .bool yblk, .bool ymrk, .int .i64 yfol, .string ylnk, .int .i64 ylps] 34)) from ((Below.refl _ _).alloc (Nat.le_refl _) _).alloc (by simp) _)
  have hR0 : RowAt ((w.alloc (.cells #[.string xnum, .string xlab, .slice xMA xmn xmc, .slice xPA xpn xpc, .bool xblk, .bool xmrk, .int .i64 xfol, .string xlnk, .int .i64 xlps] 34)).alloc (.cells #[.string ynum, .string ylab, .slice yMA ymn ymc, .slice yPA ypn ypc, .bool yblk, .bool ymrk, .int .i64 yfol, .string ylnk, .int .i64 ylps] 34)) w.heap.size #[.string xnum, .string xlab, .slice xMA xmn xmc, .slice xPA xpn xpc, .bool xblk, .bool xmrk, .int .i64 xfol, .string xlnk, .int .i64 xlps] 34 := by
    have h := RowAt.fresh w #[.string xnum, .string xlab, .slice xMA xmn xmc, .slice xPA xpn xpc, .bool xblk, .bool xmrk, .int .i64 xfol, .string xlnk, .int .i64 xlps] 34
    exact h.below ((Below.refl _ _).alloc (Nat.le_refl _) _) h.lt
  have c0 := hR0.cell (j := 0) (u := .string xnum) rfl
  generalize ordI (numV xnum.data.toList) (numV ynum.data.toList) = E at *
  clear hx1 hx2 hy1 hy2 hR0
  go_enter Tryz.func65, Tryz.ntmps65
  go_wp2_with fail
  refine (HC.out _).mono ?_
  rintro e w1 ⟨rfl, hb⟩
  go_wp2_with fail
  go_ret
  exact ⟨rfl, HB0.out.trans (hb.mono HB0.out.size)⟩
theorem cfC_t {x y z : Cu} (h1 : 0 ≤ cfC y x) (h2 : 0 ≤ cfC z y) : 0 ≤ cfC z x := by
  unfold cfC ordI at *
  split at h1 <;> split at h2 <;> split <;> (try split at h1) <;> (try split at h2) <;> (try split) <;> omega
theorem cfC_a {x y : Cu} (h : cfC x y < 0) : 0 ≤ cfC y x := by
  unfold cfC ordI at *
  split at h <;> split <;> (try split at h) <;> (try split) <;> omega
set_option maxRecDepth 100000 in
set_option maxHeartbeats 32000000 in
theorem nins_any (B c : Nat) (d0 : List Cu) (w0 : World) (hN : ∀ x ∈ d0, CuN x) (d : List Cu) (w : World) (hS : SRc w0 B d w) (hp : d.Perm d0) (hsz : d.length ≤ 1000) :
    Calls Tryz.prog 109 #[.slice (some ⟨B, 0, none⟩) d.length c, .int .i64 0, .int .i64 (d.length : Int), .func (.func 65) #[] #[]] w fun e w' => e = .returned (.tuple #[]) ∧ ∃ d', d'.Perm d0 ∧ SegS cfC 0 d.length d' ∧ SRc w0 B d' w' := by
  have eg := enters_of Tryz.func65 (by kernel_rfl) rfl
  have HC := Lib.hid hN
  have HS0 := Lib.hid hS
  have HP0 := Lib.hid hp
  clear hS hp hN
  go_enter Tryz.func109, Tryz.ntmps109
  go_wp2_with fail
  go_loopw [8] (fun iv wr => ∃ (i : Nat) (d1 : List Cu), iv = .int .i64 i ∧ 0 < i ∧ i ≤ d.length + 1 ∧ PI 0 d.length d d1 ∧ SegS cfC 0 i d1 ∧ SRc w0 B d1 wr) (fun iv _ => d.length + 1 - (intOf iv).toNat)
  case atStart => exact ⟨1, d, by go_num, by omega, by omega, PI.refl _ _ _, fun i j x y h1 h2 h3 _ _ => by omega, HS0.out⟩
  case round =>
    obtain ⟨i, d1, rfl, hai, hib, hpi, hse, hsr⟩ := hrel
    have HPi := Lib.hid hpi
    have HSe := Lib.hid hse
    have HSr := Lib.hid hsr
    clear hpi hse hsr
    by_cases hlt : i < d.length
    · have hltz : (i : Int) < (d.length : Int) := by omega
      have hiz : IntKind.i64.wrap ((i : Int) + 1) = (i : Int) + 1 := IntWalk.i64_in _ (by omega)
      rename World => V1
      go_wp2_with fail
      go_loopw [9] (fun jv wr => ∃ (j : Nat) (d2 : List Cu), jv = .int .i64 j ∧ j ≤ i ∧ PI 0 d.length d d2 ∧ InsI cfC 0 i j d2 ∧ SRc w0 B d2 wr) (fun jv _ => (intOf jv).toNat)
      case atStart => exact ⟨i, d1, rfl, Nat.le_refl _, HPi.out, InsI.start HSe.out, HSr.out⟩
      case round =>
        obtain ⟨j, d2, rfl, hji, hpi, hin, hsr⟩ := hrel
        have hl2 : d2.length = d.length := hpi.len
        have HPj := Lib.hid hpi
        have HIn := Lib.hid hin
        have HSj := Lib.hid hsr
        clear hpi hin hsr
        by_cases hja : 0 < j
        · obtain ⟨jp, rfl⟩ : ∃ q, j = q + 1 := ⟨j - 1, by omega⟩
          have hj1 : jp + 1 < d2.length := by omega
          have hj0 : jp < d2.length := by omega
          obtain ⟨x, hxe⟩ : ∃ x, x = d2[jp + 1] := ⟨_, rfl⟩
          obtain ⟨y, hye⟩ : ∃ y, y = d2[jp] := ⟨_, rfl⟩
          have hx : d2[jp + 1]? = some x := by rw [hxe]; exact List.getElem?_eq_getElem hj1
          have hy : d2[jp]? = some y := by rw [hye]; exact List.getElem?_eq_getElem hj0
          have hmx : x ∈ d0 := (HPj.out.perm.trans HP0.out).subset (List.mem_of_getElem? hx)
          have hmy : y ∈ d0 := (HPj.out.perm.trans HP0.out).subset (List.mem_of_getElem? hy)
          have hLc : ∀ V, SRc w0 B d2 V → _ := fun V h => cu_row h.row hj1
          have hMc : ∀ V, SRc w0 B d2 V → _ := fun V h => cu_row h.row hj0
          rw [← hxe] at hLc
          rw [← hye] at hMc
          have hLf : ∀ V, SRc w0 B d2 V → _ := fun V h => cu_rowf h.row hj1
          have hMf : ∀ V, SRc w0 B d2 V → _ := fun V h => cu_rowf h.row hj0
          have hLs := Lib.hid (fun V (h : SRc w0 B d2 V) => cu_row (i := jp) (putCu_cells h.row hj1 y) (by rw [List.length_set]; exact hj0))
          rw [show ((d2.set (jp + 1) y)[jp]'(by rw [List.length_set]; exact hj0)) = y from by rw [List.getElem_set_ne (by omega), hye]] at hLs
          have HCxy := Lib.hid (fun w' (h : SRc w0 B d2 w') => nwith1_any x y (HC.out x hmx) (HC.out y hmy) w')
          have HSd := Lib.hid (HSj.out.below (below_drewN (Below.refl _ _) 1))
          have hSw := Lib.hid (fun V (h : SRc w0 B d2 V) => h.swap hj1 hj0 x y)
          clear hmx hmy hxe hye
          have hjad : decide ((jp : Int) + 1 > 0) = true := decide_eq_true (by omega)
          have hjaz : (0 : Int) < (jp : Int) + 1 := by omega
          have i0 : (0 : Int) ≤ (jp : Int) + 1 := by omega
          have i1 : (jp : Int) + 1 < (d.length : Int) := by omega
          have i2 : (0 : Int) ≤ (jp : Int) := by omega
          have i3 : (jp : Int) < (d.length : Int) := by omega
          have i5 : IntKind.i64.wrap ((jp : Int) + 1) = (jp : Int) + 1 := IntWalk.i64_in _ (by omega)
          have i6 : IntKind.i64.wrap (jp : Int) = (jp : Int) := IntWalk.i64_in _ (by omega)
          have ea : ((jp : Int) + 1).toNat = jp + 1 := by omega
          rw [show ((jp + 1 : Nat) : Int) = (jp : Int) + 1 by omega]
          obtain ⟨xnum, xlab, xMA, xmn, xmc, xPA, xpn, xpc, xblk, xmrk, xfol, xlnk, xlps⟩ := x
          obtain ⟨ynum, ylab, yMA, ymn, ymc, yPA, ypn, ypc, yblk, ymrk, yfol, ylnk, ylps⟩ := y
          dsimp only [Cu.val] at hLc hMc HCxy hLs
          obtain ⟨l0, l1, l2, l3, l4, l5, l6, l7, l8⟩ := hLc _ HSd.out; obtain ⟨m0, m1, m2, m3, m4, m5, m6, m7, m8⟩ := hMc _ HSd.out
          go_wp2_with fail
          refine wp_region_held_drew (S := fun w' => w'.cell? ⟨B, (jp + 1) * 9, none⟩ = some (.string xnum) ∧ w'.cell? ⟨B, (jp + 1) * 9 + 1, none⟩ = some (.string xlab) ∧ w'.cell? ⟨B, (jp + 1) * 9 + 2, none⟩ = some (.slice xMA xmn xmc) ∧ w'.cell? ⟨B, (jp + 1) * 9 + 3, none⟩ = some (.slice xPA xpn xpc) ∧ w'.cell? ⟨B, (jp + 1) * 9 + 4, none⟩ = some (.bool xblk) ∧ w'.cell? ⟨B, (jp + 1) * 9 + 5, none⟩ = some (.bool xmrk) ∧ w'.cell? ⟨B, (jp + 1) * 9 + 6, none⟩ = some (.int .i64 xfol) ∧ w'.cell? ⟨B, (jp + 1) * 9 + 7, none⟩ = some (.string xlnk) ∧ w'.cell? ⟨B, (jp + 1) * 9 + 8, none⟩ = some (.int .i64 xlps) ∧ w'.cell? ⟨B, jp * 9, none⟩ = some (.string ynum) ∧ w'.cell? ⟨B, jp * 9 + 1, none⟩ = some (.string ylab) ∧ w'.cell? ⟨B, jp * 9 + 2, none⟩ = some (.slice yMA ymn ymc) ∧ w'.cell? ⟨B, jp * 9 + 3, none⟩ = some (.slice yPA ypn ypc) ∧ w'.cell? ⟨B, jp * 9 + 4, none⟩ = some (.bool yblk) ∧ w'.cell? ⟨B, jp * 9 + 5, none⟩ = some (.bool ymrk) ∧ w'.cell? ⟨B, jp * 9 + 6, none⟩ = some (.int .i64 yfol) ∧ w'.cell? ⟨B, jp * 9 + 7, none⟩ = some (.string ylnk) ∧ w'.cell? ⟨B, jp * 9 + 8, none⟩ = some (.int .i64 ylps)) (by kernel_rfl) (by first | exact ⟨l0, l1, l2, l3, l4, l5, l6, l7, l8, m0, m1, m2, m3, m4, m5, m6, m7, m8⟩) (fun hHeld => ?_)
          refine wpAnyH_take (i := 0) (oi := ?_) (v := ?_) ?_ (by kernel_rfl) (by kernel_rfl) (by kernel_rfl) ?_ (Or.inl ⟨?_, ?_⟩) (by assumption) ?_
          rotate_left 2
          · (simp only [List.getElem?_toArray, List.getElem?_cons_zero]; rfl)
          · exact fun _ _ _ h => h
          · rfl
          · (intro w hSw; (try dsimp only at hSw); go_simp; try with_reducible rfl)
          simp only [Act.put, List.setIfInBounds_toArray, List.set_cons_zero, List.set_cons_succ]
          refine wpAnyH_take (i := 1) (oi := ?_) (v := ?_) ?_ (by kernel_rfl) (by kernel_rfl) (by kernel_rfl) ?_ (Or.inl ⟨?_, ?_⟩) (by assumption) ?_
          rotate_left 2
          · (simp only [List.getElem?_toArray, List.getElem?_cons_succ, List.getElem?_cons_zero]; rfl)
          · exact fun _ _ _ h => h
          · rfl
          · (intro w hSw; (try dsimp only at hSw); go_simp; try with_reducible rfl)
          simp only [Act.put, List.setIfInBounds_toArray, List.set_cons_zero, List.set_cons_succ]
          refine wpAnyH_take (i := 2) (oi := ?_) (v := ?_) ?_ (by kernel_rfl) (by kernel_rfl) (by kernel_rfl) ?_ (Or.inl ⟨?_, ?_⟩) (by assumption) ?_
          rotate_left 2
          · (simp only [List.getElem?_toArray, List.getElem?_cons_succ, List.getElem?_cons_zero]; rfl)
          · exact fun _ _ _ h => h
          · rfl
          · (intro w hSw; (try dsimp only at hSw); go_simp; try with_reducible rfl)
          simp only [Act.put, List.setIfInBounds_toArray, List.set_cons_zero, List.set_cons_succ]
          refine wpAnyH_take (i := 3) (oi := ?_) (v := ?_) ?_ (by kernel_rfl) (by kernel_rfl) (by kernel_rfl) ?_ (Or.inl ⟨?_, ?_⟩) (by assumption) ?_
          rotate_left 2
          · (simp only [List.getElem?_toArray, List.getElem?_cons_succ, List.getElem?_cons_zero]; rfl)
          · exact fun _ _ _ h => h
          · rfl
          · (intro w hSw; (try dsimp only at hSw); go_simp; try with_reducible rfl)
          simp only [Act.put, List.setIfInBounds_toArray, List.set_cons_zero, List.set_cons_succ]
          refine wpAnyH_take (i := 4) (oi := ?_) (v := ?_) ?_ (by kernel_rfl) (by kernel_rfl) (by kernel_rfl) ?_ (Or.inl ⟨?_, ?_⟩) (by assumption) ?_
          rotate_left 2
          · (simp only [List.getElem?_toArray, List.getElem?_cons_succ, List.getElem?_cons_zero]; rfl)
          · exact fun _ _ _ h => h
          · rfl
          · (intro w hSw; (try dsimp only at hSw); go_simp; try with_reducible rfl)
          simp only [Act.put, List.setIfInBounds_toArray, List.set_cons_zero, List.set_cons_succ]
          refine wpAnyH_take (i := 5) (oi := ?_) (v := ?_) ?_ (by kernel_rfl) (by kernel_rfl) (by kernel_rfl) ?_ (Or.inl ⟨?_, ?_⟩) (by assumption) ?_
          rotate_left 2
          · (simp only [List.getElem?_toArray, List.getElem?_cons_succ, List.getElem?_cons_zero]; rfl)
          · exact fun _ _ _ h => h
          · rfl
          · (intro w hSw; (try dsimp only at hSw); go_simp; try with_reducible rfl)
          simp only [Act.put, List.setIfInBounds_toArray, List.set_cons_zero, List.set_cons_succ]
          refine wpAnyH_take (i := 6) (oi := ?_) (v := ?_) ?_ (by kernel_rfl) (by kernel_rfl) (by kernel_rfl) ?_ (Or.inl ⟨?_, ?_⟩) (by assumption) ?_
          rotate_left 2
          · (simp only [List.getElem?_toArray, List.getElem?_cons_succ, List.getElem?_cons_zero]; rfl)
          · exact fun _ _ _ h => h
          · rfl
          · (intro w hSw; (try dsimp only at hSw); go_simp; try with_reducible rfl)
          simp only [Act.put, List.setIfInBounds_toArray, List.set_cons_zero, List.set_cons_succ]
          refine wpAnyH_take (i := 7) (oi := ?_) (v := ?_) ?_ (by kernel_rfl) (by kernel_rfl) (by kernel_rfl) ?_ (Or.inl ⟨?_, ?_⟩) (by assumption) ?_
          rotate_left 2
          · (simp only [List.getElem?_toArray, List.getElem?_cons_succ, List.getElem?_cons_zero]; rfl)
          · exact fun _ _ _ h => h
          · rfl
          · (intro w hSw; (try dsimp only at hSw); go_simp; try with_reducible rfl)
          simp only [Act.put, List.setIfInBounds_toArray, List.set_cons_zero, List.set_cons_succ]
          refine wpAnyH_take (i := 8) (oi := ?_) (v := ?_) ?_ (by kernel_rfl) (by kernel_rfl) (by kernel_rfl) ?_ (Or.inl ⟨?_, ?_⟩) (by assumption) ?_
          rotate_left 2
          · (simp only [List.getElem?_toArray, List.getElem?_cons_succ, List.getElem?_cons_zero]; rfl)
          · exact fun _ _ _ h => h
          · rfl
          · (intro w hSw; (try dsimp only at hSw); go_simp; try with_reducible rfl)
          simp only [Act.put, List.setIfInBounds_toArray, List.set_cons_zero, List.set_cons_succ]
          refine wpAnyH_take (i := 9) (oi := ?_) (v := ?_) ?_ (by kernel_rfl) (by kernel_rfl) (by kernel_rfl) ?_ (Or.inl ⟨?_, ?_⟩) (by assumption) ?_
          rotate_left 2
          · (simp only [List.getElem?_toArray, List.getElem?_cons_succ, List.getElem?_cons_zero]; rfl)
          · exact fun _ _ _ h => h
          · rfl
          · (intro w hSw; (try dsimp only at hSw); go_simp; try with_reducible rfl)
          simp only [Act.put, List.setIfInBounds_toArray, List.set_cons_zero, List.set_cons_succ]
          refine wpAnyH_take (i := 10) (oi := ?_) (v := ?_) ?_ (by kernel_rfl) (by kernel_rfl) (by kernel_rfl) ?_ (Or.inl ⟨?_, ?_⟩) (by assumption) ?_
          rotate_left 2
          · (simp only [List.getElem?_toArray, List.getElem?_cons_succ, List.getElem?_cons_zero]; rfl)
          · exact fun _ _ _ h => h
          · rfl
          · (intro w hSw; (try dsimp only at hSw); go_simp; try with_reducible rfl)
          simp only [Act.put, List.setIfInBounds_toArray, List.set_cons_zero, List.set_cons_succ]
          refine wpAnyH_take (i := 11) (oi := ?_) (v := ?_) ?_ (by kernel_rfl) (by kernel_rfl) (by kernel_rfl) ?_ (Or.inl ⟨?_, ?_⟩) (by assumption) ?_
          rotate_left 2
          · (simp only [List.getElem?_toArray, List.getElem?_cons_succ, List.getElem?_cons_zero]; rfl)
          · exact fun _ _ _ h => h
          · rfl
          · (intro w hSw; (try dsimp only at hSw); go_simp; try with_reducible rfl)
          simp only [Act.put, List.setIfInBounds_toArray, List.set_cons_zero, List.set_cons_succ]
          refine wpAnyH_take (i := 12) (oi := ?_) (v := ?_) ?_ (by kernel_rfl) (by kernel_rfl) (by kernel_rfl) ?_ (Or.inl ⟨?_, ?_⟩) (by assumption) ?_
          rotate_left 2
          · (simp only [List.getElem?_toArray, List.getElem?_cons_succ, List.getElem?_cons_zero]; rfl)
          · exact fun _ _ _ h => h
          · rfl
          · (intro w hSw; (try dsimp only at hSw); go_simp; try with_reducible rfl)
          simp only [Act.put, List.setIfInBounds_toArray, List.set_cons_zero, List.set_cons_succ]
          refine wpAnyH_take (i := 13) (oi := ?_) (v := ?_) ?_ (by kernel_rfl) (by kernel_rfl) (by kernel_rfl) ?_ (Or.inl ⟨?_, ?_⟩) (by assumption) ?_
          rotate_left 2
          · (simp only [List.getElem?_toArray, List.getElem?_cons_succ, List.getElem?_cons_zero]; rfl)
          · exact fun _ _ _ h => h
          · rfl
          · (intro w hSw; (try dsimp only at hSw); go_simp; try with_reducible rfl)
          simp only [Act.put, List.setIfInBounds_toArray, List.set_cons_zero, List.set_cons_succ]
          refine wpAnyH_ready (rs := [14]) (by kernel_rfl) (by simp) ?_
          refine AllReadyH.cons rfl (fun K hK => ?_) AllReadyH.nil
          go_simp
          go_at_call 65; refine (HCxy.out _ HSd.out).mono ?_; rintro e w2 ⟨rfl, hb⟩; have HS2 := Lib.hid (HSd.out.below hb); clear hb; obtain ⟨l0, l1, l2, l3, l4, l5, l6, l7, l8⟩ := hLc _ HS2.out; obtain ⟨m0, m1, m2, m3, m4, m5, m6, m7, m8⟩ := hMc _ HS2.out
          go_wp2_with fail
          refine hK.out _ _ (by first | exact ⟨l0, l1, l2, l3, l4, l5, l6, l7, l8, m0, m1, m2, m3, m4, m5, m6, m7, m8⟩) (fun hHeld => ?_)
          clear hK K
          try simp only [Act.put, List.setIfInBounds_toArray, List.set_cons_zero, List.set_cons_succ]
          refine wpAnyH_take (i := 15) (oi := ?_) (v := ?_) ?_ (by kernel_rfl) (by kernel_rfl) (by kernel_rfl) ?_ (Or.inl ⟨?_, ?_⟩) (by assumption) ?_
          rotate_left 2
          · (simp only [List.getElem?_toArray, List.getElem?_cons_succ, List.getElem?_cons_zero]; rfl)
          · exact fun _ _ _ h => h
          · rfl
          · (intro w hSw; (try dsimp only at hSw); go_simp; try with_reducible rfl)
          simp only [Act.put, List.setIfInBounds_toArray, List.set_cons_zero, List.set_cons_succ]
          refine wpAnyH_take (i := 16) (oi := ?_) (v := ?_) ?_ (by kernel_rfl) (by kernel_rfl) (by kernel_rfl) ?_ (Or.inl ⟨?_, ?_⟩) (by assumption) ?_
          rotate_left 2
          · (simp only [List.getElem?_toArray, List.getElem?_cons_succ, List.getElem?_cons_zero]; rfl)
          · exact fun _ _ _ h => h
          · rfl
          · (intro w hSw; (try dsimp only at hSw); go_simp; try with_reducible rfl)
          simp only [Act.put, List.setIfInBounds_toArray, List.set_cons_zero, List.set_cons_succ]
          refine wpAnyH_done (by kernel_rfl) ?_ _
          by_cases hc : cfC (Cu.mk xnum xlab xMA xmn xmc xPA xpn xpc xblk xmrk xfol xlnk xlps) (Cu.mk ynum ylab yMA ymn ymc yPA ypn ypc yblk ymrk yfol ylnk ylps) < 0
          · have hdn := Lib.hid (InsI.down (cf := cfC) (fun _ _ h => cfC_a h) HIn.out (by omega) hji hx hy hc)
            have hpd := Lib.hid (HPj.out.trans (PI.swap (a := 0) (b := d.length) hx hy (by omega) (by omega) (by omega) (by omega)))
            have hcd : decide (cfC (Cu.mk xnum xlab xMA xmn xmc xPA xpn xpc xblk xmrk xfol xlnk xlps) (Cu.mk ynum ylab yMA ymn ymc yPA ypn ypc yblk ymrk yfol ylnk ylps) < 0) = true := decide_eq_true hc
            rw [hcd]
            clear hc hcd hx hy l0 l1 l2 l3 l4 l5 l6 l7 l8 m0 m1 m2 m3 m4 m5 m6 m7 m8
            go_wp2_with fail
            have HS4 := Lib.hid (HS2.out.below (Below.refl w2.heap.size w2).drew)
            refine wp_region_any (by kernel_rfl) ?_
            change wpAny _ _ _ _ _ _ _ w2.drew
            generalize w2.drew = w4 at *
            obtain ⟨l0, l1, l2, l3, l4, l5, l6, l7, l8⟩ := hLc _ HS4.out
            obtain ⟨m0, m1, m2, m3, m4, m5, m6, m7, m8⟩ := hMc _ HS4.out
            obtain ⟨f0, f1, f2, f3, f4, f5, f6, f7, f8⟩ := hLf _ HS4.out
            obtain ⟨g0, g1, g2, g3, g4, g5, g6, g7, g8⟩ := hMf _ HS4.out
            have h3 := hLs.out _ HS4.out
            unfold putCu at h3
            dsimp only at h3
            obtain ⟨n0_, n1_, n2_, n3_, n4_, n5_, n6_, n7_, n8_⟩ := h3
            obtain ⟨w3, hw3⟩ : ∃ w3, w3 = putCu (putCu w4 B (jp + 1) (Cu.mk ynum ylab yMA ymn ymc yPA ypn ypc yblk ymrk yfol ylnk ylps)) B jp (Cu.mk xnum xlab xMA xmn xmc xPA xpn xpc xblk xmrk xfol xlnk xlps) := ⟨_, rfl⟩
            have HS3 := Lib.hid (show SRc w0 B _ w3 from by rw [hw3]; exact hSw.out _ HS4.out)
            unfold putCu at hw3
            dsimp only at hw3
            have HW3 := Lib.hid hw3
            clear hw3 hLc hMc hLf hMf
            refine wpAny_take (i := 0) (oi := ?_) (v := ?_) ?_ (by kernel_rfl) (by kernel_rfl) (by kernel_rfl) ?_ (Or.inl ⟨?_, ?_⟩) ?_
            rotate_left 2
            · (simp only [List.getElem?_toArray, List.getElem?_cons_zero]; rfl)
            · exact fun _ _ _ h => h
            · rfl
            · (intro w; go_simp; try with_reducible rfl)
            simp only [Act.put, List.setIfInBounds_toArray, List.set_cons_zero, List.set_cons_succ]
            refine wpAny_take (i := 1) (oi := ?_) (v := ?_) ?_ (by kernel_rfl) (by kernel_rfl) (by kernel_rfl) ?_ (Or.inl ⟨?_, ?_⟩) ?_
            rotate_left 2
            · (simp only [List.getElem?_toArray, List.getElem?_cons_succ, List.getElem?_cons_zero]; rfl)
            · exact fun _ _ _ h => h
            · rfl
            · (intro w; go_simp; try with_reducible rfl)
            simp only [Act.put, List.setIfInBounds_toArray, List.set_cons_zero, List.set_cons_succ]
            refine wpAny_take (i := 2) (oi := ?_) (v := ?_) ?_ (by kernel_rfl) (by kernel_rfl) (by kernel_rfl) ?_ (Or.inl ⟨?_, ?_⟩) ?_
            rotate_left 2
            · (simp only [List.getElem?_toArray, List.getElem?_cons_succ, List.getElem?_cons_zero]; rfl)
            · exact fun _ _ _ h => h
            · rfl
            · (intro w; go_simp; try with_reducible rfl)
            simp only [Act.put, List.setIfInBounds_toArray, List.set_cons_zero, List.set_cons_succ]
            refine wpAny_take (i := 3) (oi := ?_) (v := ?_) ?_ (by kernel_rfl) (by kernel_rfl) (by kernel_rfl) ?_ (Or.inl ⟨?_, ?_⟩) ?_
            rotate_left 2
            · (simp only [List.getElem?_toArray, List.getElem?_cons_succ, List.getElem?_cons_zero]; rfl)
            · exact fun _ _ _ h => h
            · rfl
            · (intro w; go_simp; try with_reducible rfl)
            simp only [Act.put, List.setIfInBounds_toArray, List.set_cons_zero, List.set_cons_succ]
            refine wpAny_take (i := 4) (oi := ?_) (v := ?_) ?_ (by kernel_rfl) (by kernel_rfl) (by kernel_rfl) ?_ (Or.inl ⟨?_, ?_⟩) ?_
            rotate_left 2
            · (simp only [List.getElem?_toArray, List.getElem?_cons_succ, List.getElem?_cons_zero]; rfl)
            · exact fun _ _ _ h => h
            · rfl
            · (intro w; go_simp; try with_reducible rfl)
            simp only [Act.put, List.setIfInBounds_toArray, List.set_cons_zero, List.set_cons_succ]
            refine wpAny_take (i := 5) (oi := ?_) (v := ?_) ?_ (by kernel_rfl) (by kernel_rfl) (by kernel_rfl) ?_ (Or.inl ⟨?_, ?_⟩) ?_
            rotate_left 2
            · (simp only [List.getElem?_toArray, List.getElem?_cons_succ, List.getElem?_cons_zero]; rfl)
            · exact fun _ _ _ h => h
            · rfl
            · (intro w; go_simp; try with_reducible rfl)
            simp only [Act.put, List.setIfInBounds_toArray, List.set_cons_zero, List.set_cons_succ]
            refine wpAny_take (i := 6) (oi := ?_) (v := ?_) ?_ (by kernel_rfl) (by kernel_rfl) (by kernel_rfl) ?_ (Or.inl ⟨?_, ?_⟩) ?_
            rotate_left 2
            · (simp only [List.getElem?_toArray, List.getElem?_cons_succ, List.getElem?_cons_zero]; rfl)
            · exact fun _ _ _ h => h
            · rfl
            · (intro w; go_simp; try with_reducible rfl)
            simp only [Act.put, List.setIfInBounds_toArray, List.set_cons_zero, List.set_cons_succ]
            refine wpAny_take (i := 7) (oi := ?_) (v := ?_) ?_ (by kernel_rfl) (by kernel_rfl) (by kernel_rfl) ?_ (Or.inl ⟨?_, ?_⟩) ?_
            rotate_left 2
            · (simp only [List.getElem?_toArray, List.getElem?_cons_succ, List.getElem?_cons_zero]; rfl)
            · exact fun _ _ _ h => h
            · rfl
            · (intro w; go_simp; try with_reducible rfl)
            simp only [Act.put, List.setIfInBounds_toArray, List.set_cons_zero, List.set_cons_succ]
            refine wpAny_take (i := 8) (oi := ?_) (v := ?_) ?_ (by kernel_rfl) (by kernel_rfl) (by kernel_rfl) ?_ (Or.inl ⟨?_, ?_⟩) ?_
            rotate_left 2
            · (simp only [List.getElem?_toArray, List.getElem?_cons_succ, List.getElem?_cons_zero]; rfl)
            · exact fun _ _ _ h => h
            · rfl
            · (intro w; go_simp; try with_reducible rfl)
            simp only [Act.put, List.setIfInBounds_toArray, List.set_cons_zero, List.set_cons_succ]
            refine wpAny_take (i := 10) (oi := ?_) (v := ?_) ?_ (by kernel_rfl) (by kernel_rfl) (by kernel_rfl) ?_ (Or.inl ⟨?_, ?_⟩) ?_
            rotate_left 2
            · (simp only [List.getElem?_toArray, List.getElem?_cons_succ, List.getElem?_cons_zero]; rfl)
            · exact fun _ _ _ h => h
            · rfl
            · (intro w; go_simp; try with_reducible rfl)
            simp only [Act.put, List.setIfInBounds_toArray, List.set_cons_zero, List.set_cons_succ]
            refine wpAny_take (i := 11) (oi := ?_) (v := ?_) ?_ (by kernel_rfl) (by kernel_rfl) (by kernel_rfl) ?_ (Or.inl ⟨?_, ?_⟩) ?_
            rotate_left 2
            · (simp only [List.getElem?_toArray, List.getElem?_cons_succ, List.getElem?_cons_zero]; rfl)
            · exact fun _ _ _ h => h
            · rfl
            · (intro w; go_simp; try with_reducible rfl)
            simp only [Act.put, List.setIfInBounds_toArray, List.set_cons_zero, List.set_cons_succ]
            refine wpAny_take (i := 12) (oi := ?_) (v := ?_) ?_ (by kernel_rfl) (by kernel_rfl) (by kernel_rfl) ?_ (Or.inl ⟨?_, ?_⟩) ?_
            rotate_left 2
            · (simp only [List.getElem?_toArray, List.getElem?_cons_succ, List.getElem?_cons_zero]; rfl)
            · exact fun _ _ _ h => h
            · rfl
            · (intro w; go_simp; try with_reducible rfl)
            simp only [Act.put, List.setIfInBounds_toArray, List.set_cons_zero, List.set_cons_succ]
            refine wpAny_ready (rs := [9, 13]) (by kernel_rfl) (by simp) ?_
            refine AllReady.cons rfl (fun K hK => ?_) (AllReady.cons rfl (fun K hK => ?_) (AllReady.nil))
            · go_simp
              refine hK _ _ ?_
              clear hK K
              try simp only [Act.put, List.setIfInBounds_toArray, List.set_cons_zero, List.set_cons_succ]
              refine wpAny_ready (rs := [13]) (by kernel_rfl) (by simp) ?_
              refine AllReady.cons rfl (fun K hK => ?_) (AllReady.nil)
              go_simp
              refine hK _ _ ?_
              clear hK K
              try simp only [Act.put, List.setIfInBounds_toArray, List.set_cons_zero, List.set_cons_succ]
              refine wpAny_take (i := 14) (oi := ?_) (v := ?_) ?_ (by kernel_rfl) (by kernel_rfl) (by kernel_rfl) ?_ (Or.inl ⟨?_, ?_⟩) ?_
              rotate_left 2
              · (simp only [List.getElem?_toArray, List.getElem?_cons_succ, List.getElem?_cons_zero]; rfl)
              · exact fun _ _ _ h => h
              · rfl
              · (intro w; go_simp; try with_reducible rfl)
              simp only [Act.put, List.setIfInBounds_toArray, List.set_cons_zero, List.set_cons_succ]
              refine wpAny_ready (rs := [15]) (by kernel_rfl) (by simp) ?_
              refine AllReady.cons rfl (fun K hK => ?_) (AllReady.nil)
              go_simp
              refine hK _ _ ?_
              clear hK K
              try simp only [Act.put, List.setIfInBounds_toArray, List.set_cons_zero, List.set_cons_succ]
              refine wpAny_take (i := 16) (oi := ?_) (v := ?_) ?_ (by kernel_rfl) (by kernel_rfl) (by kernel_rfl) ?_ (Or.inl ⟨?_, ?_⟩) ?_
              rotate_left 2
              · (simp only [List.getElem?_toArray, List.getElem?_cons_succ, List.getElem?_cons_zero]; rfl)
              · exact fun _ _ _ h => h
              · rfl
              · (intro w; go_simp; try with_reducible rfl)
              simp only [Act.put, List.setIfInBounds_toArray, List.set_cons_zero, List.set_cons_succ]
              refine wpAny_ready (rs := [17]) (by kernel_rfl) (by simp) ?_
              refine AllReady.cons rfl (fun K hK => ?_) (AllReady.nil)
              go_simp
              refine hK _ _ ?_
              clear hK K
              try simp only [Act.put, List.setIfInBounds_toArray, List.set_cons_zero, List.set_cons_succ]
              refine wpAny_done (by kernel_rfl) ?_ _
              rw [← HW3.out]
              go_wp2_with fail
              go_roundw
              case rel => exact ⟨jp, (d2.set (jp + 1) (Cu.mk ynum ylab yMA ymn ymc yPA ypn ypc yblk ymrk yfol ylnk ylps)).set jp (Cu.mk xnum xlab xMA xmn xmc xPA xpn xpc xblk xmrk xfol xlnk xlps), by go_num, by omega, hpd.out, hdn.out, HS3.out⟩
              case measure => simp [intOf]
            · go_simp
              refine hK _ _ ?_
              clear hK K
              try simp only [Act.put, List.setIfInBounds_toArray, List.set_cons_zero, List.set_cons_succ]
              refine wpAny_ready (rs := [9]) (by kernel_rfl) (by simp) ?_
              refine AllReady.cons rfl (fun K hK => ?_) (AllReady.nil)
              go_simp
              refine hK _ _ ?_
              clear hK K
              try simp only [Act.put, List.setIfInBounds_toArray, List.set_cons_zero, List.set_cons_succ]
              refine wpAny_take (i := 14) (oi := ?_) (v := ?_) ?_ (by kernel_rfl) (by kernel_rfl) (by kernel_rfl) ?_ (Or.inl ⟨?_, ?_⟩) ?_
              rotate_left 2
              · (simp only [List.getElem?_toArray, List.getElem?_cons_succ, List.getElem?_cons_zero]; rfl)
              · exact fun _ _ _ h => h
              · rfl
              · (intro w; go_simp; try with_reducible rfl)
              simp only [Act.put, List.setIfInBounds_toArray, List.set_cons_zero, List.set_cons_succ]
              refine wpAny_ready (rs := [15]) (by kernel_rfl) (by simp) ?_
              refine AllReady.cons rfl (fun K hK => ?_) (AllReady.nil)
              go_simp
              refine hK _ _ ?_
              clear hK K
              try simp only [Act.put, List.setIfInBounds_toArray, List.set_cons_zero, List.set_cons_succ]
              refine wpAny_take (i := 16) (oi := ?_) (v := ?_) ?_ (by kernel_rfl) (by kernel_rfl) (by kernel_rfl) ?_ (Or.inl ⟨?_, ?_⟩) ?_
              rotate_left 2
              · (simp only [List.getElem?_toArray, List.getElem?_cons_succ, List.getElem?_cons_zero]; rfl)
              · exact fun _ _ _ h => h
              · rfl
              · (intro w; go_simp; try with_reducible rfl)
              simp only [Act.put, List.setIfInBounds_toArray, List.set_cons_zero, List.set_cons_succ]
              refine wpAny_ready (rs := [17]) (by kernel_rfl) (by simp) ?_
              refine AllReady.cons rfl (fun K hK => ?_) (AllReady.nil)
              go_simp
              refine hK _ _ ?_
              clear hK K
              try simp only [Act.put, List.setIfInBounds_toArray, List.set_cons_zero, List.set_cons_succ]
              refine wpAny_done (by kernel_rfl) ?_ _
              rw [← HW3.out]
              go_wp2_with fail
              go_roundw
              case rel => exact ⟨jp, (d2.set (jp + 1) (Cu.mk ynum ylab yMA ymn ymc yPA ypn ypc yblk ymrk yfol ylnk ylps)).set jp (Cu.mk xnum xlab xMA xmn xmc xPA xpn xpc xblk xmrk xfol xlnk xlps), by go_num, by omega, hpd.out, hdn.out, HS3.out⟩
              case measure => simp [intOf]
          · have hSt := Lib.hid (InsI.stop (cf := cfC) (fun _ _ _ h1 h2 => cfC_t h1 h2) HIn.out hji (Or.inr ⟨(Cu.mk xnum xlab xMA xmn xmc xPA xpn xpc xblk xmrk xfol xlnk xlps), (Cu.mk ynum ylab yMA ymn ymc yPA ypn ypc yblk ymrk yfol ylnk ylps), hx, hy, Int.not_lt.1 hc⟩) (Nat.zero_le _))
            rw [decide_eq_false hc]
            clear hc hx hy hLc hMc hLf hMf
            go_wp2_with fail
            go_roundw
            case rel => exact ⟨i + 1, d2, by go_num, by omega, by omega, HPj.out, hSt.out, HS2.out⟩
            case measure => simp [intOf]; omega
        · have hja0 : j = 0 := by omega
          subst hja0
          have hSt := Lib.hid (InsI.stop (cf := cfC) (fun _ _ _ h1 h2 => cfC_t h1 h2) HIn.out hji (Or.inl rfl) (Nat.le_refl _))
          have HSd := Lib.hid (HSj.out.below (below_drewN (Below.refl _ _) 1))
          go_wp2_with fail
          refine wp_region_held_drew (S := fun _ => True) (by kernel_rfl) (by first | exact trivial) (fun hHeld => ?_)
          refine wpAnyH_take (i := 0) (oi := ?_) (v := ?_) ?_ (by kernel_rfl) (by kernel_rfl) (by kernel_rfl) ?_ (Or.inl ⟨?_, ?_⟩) (by assumption) ?_
          rotate_left 2
          · (simp only [List.getElem?_toArray, List.getElem?_cons_zero]; rfl)
          · exact fun _ _ _ h => h
          · rfl
          · (intro w hSw; (try dsimp only at hSw); go_simp; try with_reducible rfl)
          simp only [Act.put, List.setIfInBounds_toArray, List.set_cons_zero, List.set_cons_succ]
          refine wpAnyH_take (i := 1) (oi := ?_) (v := ?_) ?_ (by kernel_rfl) (by kernel_rfl) (by kernel_rfl) ?_ (Or.inl ⟨?_, ?_⟩) (by assumption) ?_
          rotate_left 2
          · (simp only [List.getElem?_toArray, List.getElem?_cons_succ, List.getElem?_cons_zero]; rfl)
          · exact fun _ _ _ h => h
          · rfl
          · (intro w hSw; (try dsimp only at hSw); go_simp; try with_reducible rfl)
          simp only [Act.put, List.setIfInBounds_toArray, List.set_cons_zero, List.set_cons_succ]
          refine wpAnyH_take (i := 2) (oi := ?_) (v := ?_) ?_ (by kernel_rfl) (by kernel_rfl) (by kernel_rfl) ?_ (Or.inl ⟨?_, ?_⟩) (by assumption) ?_
          rotate_left 2
          · (simp only [List.getElem?_toArray, List.getElem?_cons_succ, List.getElem?_cons_zero]; rfl)
          · exact fun _ _ _ h => h
          · rfl
          · (intro w hSw; (try dsimp only at hSw); go_simp; try with_reducible rfl)
          simp only [Act.put, List.setIfInBounds_toArray, List.set_cons_zero, List.set_cons_succ]
          refine wpAnyH_take (i := 3) (oi := ?_) (v := ?_) ?_ (by kernel_rfl) (by kernel_rfl) (by kernel_rfl) ?_ (Or.inl ⟨?_, ?_⟩) (by assumption) ?_
          rotate_left 2
          · (simp only [List.getElem?_toArray, List.getElem?_cons_succ, List.getElem?_cons_zero]; rfl)
          · exact fun _ _ _ h => h
          · rfl
          · (intro w hSw; (try dsimp only at hSw); go_simp; try with_reducible rfl)
          simp only [Act.put, List.setIfInBounds_toArray, List.set_cons_zero, List.set_cons_succ]
          refine wpAnyH_take (i := 4) (oi := ?_) (v := undef) ?_ (by kernel_rfl) (by kernel_rfl) (by kernel_rfl) ?_ (Or.inr ⟨?_, rfl⟩) (by assumption) ?_
          rotate_left 1
          · (simp only [List.getElem?_toArray, List.getElem?_cons_succ, List.getElem?_cons_zero]; rfl)
          · exact fun _ _ _ h => h
          · rfl
          simp only [Act.put, List.setIfInBounds_toArray, List.set_cons_zero, List.set_cons_succ]
          refine wpAnyH_take (i := 5) (oi := ?_) (v := undef) ?_ (by kernel_rfl) (by kernel_rfl) (by kernel_rfl) ?_ (Or.inr ⟨?_, rfl⟩) (by assumption) ?_
          rotate_left 1
          · (simp only [List.getElem?_toArray, List.getElem?_cons_succ, List.getElem?_cons_zero]; rfl)
          · exact fun _ _ _ h => h
          · rfl
          simp only [Act.put, List.setIfInBounds_toArray, List.set_cons_zero, List.set_cons_succ]
          refine wpAnyH_take (i := 6) (oi := ?_) (v := undef) ?_ (by kernel_rfl) (by kernel_rfl) (by kernel_rfl) ?_ (Or.inr ⟨?_, rfl⟩) (by assumption) ?_
          rotate_left 1
          · (simp only [List.getElem?_toArray, List.getElem?_cons_succ, List.getElem?_cons_zero]; rfl)
          · exact fun _ _ _ h => h
          · rfl
          simp only [Act.put, List.setIfInBounds_toArray, List.set_cons_zero, List.set_cons_succ]
          refine wpAnyH_take (i := 7) (oi := ?_) (v := undef) ?_ (by kernel_rfl) (by kernel_rfl) (by kernel_rfl) ?_ (Or.inr ⟨?_, rfl⟩) (by assumption) ?_
          rotate_left 1
          · (simp only [List.getElem?_toArray, List.getElem?_cons_succ, List.getElem?_cons_zero]; rfl)
          · exact fun _ _ _ h => h
          · rfl
          simp only [Act.put, List.setIfInBounds_toArray, List.set_cons_zero, List.set_cons_succ]
          refine wpAnyH_take (i := 8) (oi := ?_) (v := undef) ?_ (by kernel_rfl) (by kernel_rfl) (by kernel_rfl) ?_ (Or.inr ⟨?_, rfl⟩) (by assumption) ?_
          rotate_left 1
          · (simp only [List.getElem?_toArray, List.getElem?_cons_succ, List.getElem?_cons_zero]; rfl)
          · exact fun _ _ _ h => h
          · rfl
          simp only [Act.put, List.setIfInBounds_toArray, List.set_cons_zero, List.set_cons_succ]
          refine wpAnyH_take (i := 9) (oi := ?_) (v := undef) ?_ (by kernel_rfl) (by kernel_rfl) (by kernel_rfl) ?_ (Or.inr ⟨?_, rfl⟩) (by assumption) ?_
          rotate_left 1
          · (simp only [List.getElem?_toArray, List.getElem?_cons_succ, List.getElem?_cons_zero]; rfl)
          · exact fun _ _ _ h => h
          · rfl
          simp only [Act.put, List.setIfInBounds_toArray, List.set_cons_zero, List.set_cons_succ]
          refine wpAnyH_take (i := 10) (oi := ?_) (v := undef) ?_ (by kernel_rfl) (by kernel_rfl) (by kernel_rfl) ?_ (Or.inr ⟨?_, rfl⟩) (by assumption) ?_
          rotate_left 1
          · (simp only [List.getElem?_toArray, List.getElem?_cons_succ, List.getElem?_cons_zero]; rfl)
          · exact fun _ _ _ h => h
          · rfl
          simp only [Act.put, List.setIfInBounds_toArray, List.set_cons_zero, List.set_cons_succ]
          refine wpAnyH_take (i := 11) (oi := ?_) (v := undef) ?_ (by kernel_rfl) (by kernel_rfl) (by kernel_rfl) ?_ (Or.inr ⟨?_, rfl⟩) (by assumption) ?_
          rotate_left 1
          · (simp only [List.getElem?_toArray, List.getElem?_cons_succ, List.getElem?_cons_zero]; rfl)
          · exact fun _ _ _ h => h
          · rfl
          simp only [Act.put, List.setIfInBounds_toArray, List.set_cons_zero, List.set_cons_succ]
          refine wpAnyH_take (i := 12) (oi := ?_) (v := undef) ?_ (by kernel_rfl) (by kernel_rfl) (by kernel_rfl) ?_ (Or.inr ⟨?_, rfl⟩) (by assumption) ?_
          rotate_left 1
          · (simp only [List.getElem?_toArray, List.getElem?_cons_succ, List.getElem?_cons_zero]; rfl)
          · exact fun _ _ _ h => h
          · rfl
          simp only [Act.put, List.setIfInBounds_toArray, List.set_cons_zero, List.set_cons_succ]
          refine wpAnyH_take (i := 13) (oi := ?_) (v := undef) ?_ (by kernel_rfl) (by kernel_rfl) (by kernel_rfl) ?_ (Or.inr ⟨?_, rfl⟩) (by assumption) ?_
          rotate_left 1
          · (simp only [List.getElem?_toArray, List.getElem?_cons_succ, List.getElem?_cons_zero]; rfl)
          · exact fun _ _ _ h => h
          · rfl
          simp only [Act.put, List.setIfInBounds_toArray, List.set_cons_zero, List.set_cons_succ]
          refine wpAnyH_take (i := 14) (oi := ?_) (v := undef) ?_ (by kernel_rfl) (by kernel_rfl) (by kernel_rfl) ?_ (Or.inr ⟨?_, rfl⟩) (by assumption) ?_
          rotate_left 1
          · (simp only [List.getElem?_toArray, List.getElem?_cons_succ, List.getElem?_cons_zero]; rfl)
          · exact fun _ _ _ h => h
          · rfl
          simp only [Act.put, List.setIfInBounds_toArray, List.set_cons_zero, List.set_cons_succ]
          refine wpAnyH_take (i := 15) (oi := ?_) (v := undef) ?_ (by kernel_rfl) (by kernel_rfl) (by kernel_rfl) ?_ (Or.inr ⟨?_, rfl⟩) (by assumption) ?_
          rotate_left 1
          · (simp only [List.getElem?_toArray, List.getElem?_cons_succ, List.getElem?_cons_zero]; rfl)
          · exact fun _ _ _ h => h
          · rfl
          simp only [Act.put, List.setIfInBounds_toArray, List.set_cons_zero, List.set_cons_succ]
          refine wpAnyH_take (i := 16) (oi := ?_) (v := ?_) ?_ (by kernel_rfl) (by kernel_rfl) (by kernel_rfl) ?_ (Or.inl ⟨?_, ?_⟩) (by assumption) ?_
          rotate_left 2
          · (simp only [List.getElem?_toArray, List.getElem?_cons_succ, List.getElem?_cons_zero]; rfl)
          · exact fun _ _ _ h => h
          · rfl
          · (intro w hSw; (try dsimp only at hSw); go_simp; try with_reducible rfl)
          simp only [Act.put, List.setIfInBounds_toArray, List.set_cons_zero, List.set_cons_succ]
          refine wpAnyH_done (by kernel_rfl) ?_ _
          go_wp2_with fail
          go_roundw
          case rel => exact ⟨i + 1, d2, by go_num, by omega, by omega, HPj.out, hSt.out, HSd.out⟩
          case measure => simp [intOf]; omega
    · have hltz : ¬ (i : Int) < (d.length : Int) := by omega
      go_wp2_with fail
      go_end0
      exact ⟨rfl, d1, HPi.out.perm.trans HP0.out, fun p q x y h1 h2 h3 hp hq => HSe.out p q x y h1 h2 (by omega) hp hq, HSr.out⟩
end Go.Proofs.YtbhkfemebionnaaGreatDoor

namespace Go.Proofs.YtbhkfemebionnaaGreatDoor
open Go.RowKit

theorem gr_setn {w w' : World} {row : Option Nat} (h : w.grownBy w' row) {Q : Nat} (hQ : w.heap.size ≤ Q) (j : Nat) (v : Value) : w.grownBy (w'.setCell ⟨Q, j, none⟩ v) row :=
  ⟨h.os, h.tape, h.output, by rw [World.size_setCell]; exact h.size, fun k hk hne => (Below.heap_setCell _ _ _ _ (fun e => by have e : k = Q := e; omega)).trans (h.block k hk hne)⟩
set_option maxRecDepth 100000 in
set_option maxHeartbeats 16000000 in
theorem npdq_any (B c : Nat) (d0 : List Cu) (w0 : World) (hN : ∀ x ∈ d0, CuN x) (d : List Cu) (lim : Int) (w : World) (hS : SRc w0 B d w) (hp : d.Perm d0) (hsz : d.length ≤ 12) :
    Calls Tryz.prog 90 #[.slice (some ⟨B, 0, none⟩) d.length c, .int .i64 0, .int .i64 (d.length : Int), .int .i64 lim, .func (.func 65) #[] #[]] w fun e w' => e = .returned (.tuple #[]) ∧ ∃ d', d'.Perm d0 ∧ SegS cfC 0 d.length d' ∧ SRc w0 B d' w' := by
  have HI := Lib.hid (nins_any B c d0 w0 hN d w hS hp (by omega))
  have g1 : (d.length : Int) ≤ 12 := by omega
  have v1 : IntKind.i64.wrap (d.length : Int) = (d.length : Int) := IntWalk.i64_in _ (by omega)
  clear hN hS hp
  go_enter Tryz.func90, Tryz.ntmps90
  go_wp2_with fail
  go_loopw [1, 2] (fun v1 v2 wr => v1 = .int .i64 0 ∧ v2 = .int .i64 (d.length : Int) ∧ wr = w) (fun _ _ _ => 0)
  case atStart => exact ⟨rfl, rfl, rfl⟩
  case round =>
    obtain ⟨rfl, rfl, rfl⟩ := hrel
    go_wp2_with fail
    refine HI.out.mono ?_
    rintro e w1 ⟨rfl, h⟩
    have HH := Lib.hid h
    clear h
    go_wp2_with fail
    refine bodyPost_ret (results_none rfl _ _ _) rfl ?_
    exact ⟨rfl, HH.out⟩
set_option maxRecDepth 100000 in
set_option maxHeartbeats 16000000 in
theorem nsortc_any (B c : Nat) (d : List Cu) (w : World) (hC : Cells w B (shCu.vs d)) (hN : ∀ x ∈ d, CuN x) (hsz : d.length ≤ 12) :
    Calls Tryz.prog 64 #[.slice (some ⟨B, 0, none⟩) d.length c, .func (.func 65) #[] #[]] w fun e w' => e = .returned (.tuple #[]) ∧ ∃ d', d'.Perm d ∧ SegS cfC 0 d.length d' ∧ SRc w B d' w' := by
  have HP := Lib.hid (fun V n (h : Below w.heap.size w V) => npdq_any B c d w hN d n V ((SRc.mk ⟨rfl, rfl, rfl, Nat.le_refl _, fun _ _ _ => rfl⟩ hC).below h) (List.Perm.refl _) hsz)
  have v1 : IntKind.u64.wrap (d.length : Int) = (d.length : Int) := IntWalk.u64_in _ (by omega)
  have HL := Lib.hid (fun V => Tryz.bits_Len (d.length : Int) V (by omega) (by omega))
  clear hC hN hsz
  go_enter Tryz.func64, Tryz.ntmps64
  go_wp2_with fail
  refine (HL.out w).mono ?_
  rintro e w1 ⟨rfl, rfl⟩
  generalize (((Lib.bitLen ((d.length : Int)).toNat : Nat)) : Int) = nn at *
  go_wp2_with fail
  refine (HP.out _ nn (Below.refl _ _)).mono ?_
  rintro e w2 ⟨rfl, h⟩
  have HH := Lib.hid h
  clear h
  go_wp2_with fail
  go_end0
  exact ⟨rfl, HH.out⟩
set_option maxRecDepth 100000 in
set_option maxHeartbeats 16000000 in
theorem nwithc_any (no pri : Int) (A : Option Addr) (n c : Nat) (B c2 : Nat) (d : List Cu) (w : World) (hC : Cells w B (shCu.vs d)) (hN : ∀ x ∈ d, CuN x) (hsz : d.length ≤ 12) :
    Calls Tryz.prog 35 #[.agg #[.int .i64 no, .int .i64 pri, .slice A n c], .slice (some ⟨B, 0, none⟩) d.length c2] w fun e w' => ∃ d', d'.Perm d ∧ SegS cfC 0 d.length d' ∧ e = .returned (.agg #[.int .i64 no, .int .i64 pri, .slice (some ⟨B, 0, none⟩) d.length c2]) ∧ Cells w' B (shCu.vs d') ∧ w.grownBy w' (some B) := by
  obtain ⟨W0, hW0⟩ : ∃ W0, W0 = w.alloc (.cells #[.int .i64 no, .int .i64 pri, .slice A n c] 80) := ⟨_, rfl⟩
  obtain ⟨W1, hW1⟩ : ∃ W1, W1 = W0.alloc (.cells #[.int .i64 0, .int .i64 0, .slice none 0 0] 24) := ⟨_, rfl⟩
  have hB0 : Below w.heap.size w W0 := by rw [hW0]; exact (Below.refl _ _).alloc (Nat.le_refl _) _
  have hB1 : Below W0.heap.size W0 W1 := by rw [hW1]; exact (Below.refl _ _).alloc (Nat.le_refl _) _
  have hs0 : W0.heap.size = w.heap.size + 1 := by rw [hW0]; simp
  have hR0 : RowAt W1 w.heap.size #[.int .i64 no, .int .i64 pri, .slice A n c] 80 := by
    have h : RowAt W0 w.heap.size #[.int .i64 no, .int .i64 pri, .slice A n c] 80 := by rw [hW0]; exact RowAt.fresh w _ _
    exact h.below hB1 h.lt
  have hR1 : RowAt W1 (w.heap.size + 1) #[.int .i64 0, .int .i64 0, .slice none 0 0] 24 := by rw [hW1, ← hs0]; exact RowAt.fresh W0 _ _
  have hBB := hB0.trans (hB1.mono hB0.size)
  have hBw := hC.1
  have HS := Lib.hid (nsortc_any B c2 d W1 (hC.below hBB hC.1) hN hsz)
  have HR0 := Lib.hid hR0
  have HR1 := Lib.hid hR1
  have HBB := Lib.hid hBB
  have HW := Lib.hid (show W1 = (w.alloc (.cells #[.int .i64 no, .int .i64 pri, .slice A n c] 80)).alloc (.cells #[.int .i64 0, .int .i64 0, .slice none 0 0] 24) by rw [hW1, hW0])
  clear hW0 hW1 hB0 hB1 hs0 hR0 hR1 hBB hC hN
  go_enter Tryz.func35, Tryz.ntmps35
  go_wp2_with fail
  rw [← HW.out]
  refine HS.out.mono ?_
  rintro e w2 ⟨rfl, d', hdp, hds, hsr⟩
  have hne0 : B ≠ w.heap.size := by omega
  have hne1 : B ≠ w.heap.size + 1 := by omega
  have hRa : RowAt w2 w.heap.size #[.int .i64 no, .int .i64 pri, .slice A n c] 80 := (hsr.gr.block _ HR0.out.lt (fun e => hne0 (by injection e with e; exact e.symm))).trans HR0.out
  have hRb : RowAt w2 (w.heap.size + 1) #[.int .i64 0, .int .i64 0, .slice none 0 0] 24 := (hsr.gr.block _ HR1.out.lt (fun e => hne1 (by injection e with e; exact e.symm))).trans HR1.out
  have fa2 := hRa.fr 2
  have ra0 := hRa.cell (j := 0) (u := .int .i64 no) rfl
  have ra1 := hRa.cell (j := 1) (u := .int .i64 pri) rfl
  have ra2 := hRa.cell (j := 2) (u := .slice A n c) rfl
  have f0 := hRb.fr 0
  have f1 := hRb.fr 1
  have f2 := hRb.fr 2
  have r0 := hRb.cell (j := 0) (u := .int .i64 0) rfl
  have r1 := hRb.cell (j := 1) (u := .int .i64 0) rfl
  have r2 := hRb.cell (j := 2) (u := .slice none 0 0) rfl
  have HRb := Lib.hid hRb
  have HRa := Lib.hid hRa
  have HD := Lib.hid (And.intro hdp hds)
  have HSr := Lib.hid hsr
  clear hRa hRb hdp hds hsr
  go_wp2_with fail
  (try simp only [Exit.inBlock, Exit.then])
  have hRb1 := HRb.out.far 2 (.slice (some ⟨B, 0, none⟩) d.length c2) (show w.heap.size ≠ w.heap.size + 1 by omega)
  have hr := ((hRb1.set 0 (.int .i64 no)).set 1 (.int .i64 pri)).set 2 (.slice (some ⟨B, 0, none⟩) d.length c2)
  have k0 := hr.cell (j := 0) (u := .int .i64 no) rfl
  have k1 := hr.cell (j := 1) (u := .int .i64 pri) rfl
  have k2 := hr.cell (j := 2) (u := .slice (some ⟨B, 0, none⟩) d.length c2) rfl
  refine bodyPost_ret (v := .agg #[.int .i64 no, .int .i64 pri, .slice (some ⟨B, 0, none⟩) d.length c2]) ?_ rfl ⟨d', HD.out.1, HD.out.2, rfl, ?_, ?_⟩
  · rw [res_cell1 rfl]
    go_simp
  · exact (((HSr.out.row.far 2 _ hne0.symm).far 0 _ hne1.symm).far 1 _ hne1.symm).far 2 _ hne1.symm
  · have h1 : w.grownBy w2 (some B) := ⟨HSr.out.gr.os.trans HBB.out.os, HSr.out.gr.tape.trans HBB.out.tape, HSr.out.gr.output.trans HBB.out.output, Nat.le_trans HBB.out.size HSr.out.gr.size, fun k hk hne => (HSr.out.gr.block k (Nat.lt_of_lt_of_le hk HBB.out.size) hne).trans (HBB.out.block k hk)⟩
    exact gr_setn (gr_setn (gr_setn (gr_setn h1 (Nat.le_refl _) 2 _) (Nat.le_succ _) 0 _) (Nat.le_succ _) 1 _) (Nat.le_succ _) 2 _
end Go.Proofs.YtbhkfemebionnaaGreatDoor

namespace Go.Proofs.YtbhkfemebionnaaGreatDoor
open Go.RowKit

theorem own_ge {w : World} {base sz k n c g : Nat} {e : TypeId} {xs : List Value} (h : w.ownsRow base e sz (.slice (some ⟨g, 0, none⟩) n c) k xs) : base ≤ g := by
  rcases h.2 with ⟨hv, _⟩ | ⟨g', cap, cur, hv, hg, _⟩
  · injection hv with e1; cases e1
  · injection hv with e1
    injection e1 with e1
    injection e1 with e1
    omega
set_option maxRecDepth 100000 in
set_option maxHeartbeats 32000000 in
theorem nput_any (no pri : Int) (A : Option Addr) (n c : Nat) (X : List CV) (num : ByteArray) (bp : Nat) (w : World) (hX : InC w A n X) (hs : ∀ x ∈ X, x.fitS) (hok : LsOK no pri X) (hn : n ≤ 9) (hsz : num.size ≤ 9223372036854775807) (hnum : numE num.data.toList = 0) (ht : shTm.In w (some ⟨bp, 0, none⟩) 1 [tm0]) (hno : idxOf (numQ num) X = -1) :
    Calls Tryz.prog 15 #[.agg #[.int .i64 no, .int .i64 pri, .slice A n c], .agg #[.string num, .string ⟨#[]⟩, .slice none 0 0, .slice (some ⟨bp, 0, none⟩) 1 1, .bool false, .bool false, .int .i64 (-1), .string ⟨#[]⟩, .int .i64 0]] w fun e w' => ∃ (g cap : Nat) (d' : List Cu), e = .returned (.tuple #[.agg #[.int .i64 no, .int .i64 pri, .slice (some ⟨g, 0, none⟩) (n + 1) cap], .int .i64 0]) ∧ d'.Perm (X.map CV.c ++ [⟨num, ⟨#[]⟩, none, 0, 0, some ⟨bp, 0, none⟩, 1, 1, false, false, -1, ⟨#[]⟩, 0⟩]) ∧ SegS cfC 0 (n + 1) d' ∧ Cells w' g (shCu.vs d') ∧ w.heap.size ≤ g ∧ Below w.heap.size w w' := by
  have hln : X.length = n := hX.len.symm
  obtain ⟨W0, hW0⟩ : ∃ W0, W0 = w.alloc (.cells #[.int .i64 no, .int .i64 pri, .slice A n c] 24) := ⟨_, rfl⟩
  obtain ⟨W1, hW1⟩ : ∃ W1, W1 = W0.alloc (.cells #[.string num, .string ⟨#[]⟩, .slice none 0 0, .slice (some ⟨bp, 0, none⟩) 1 1, .bool false, .bool false, .int .i64 (-1), .string ⟨#[]⟩, .int .i64 0] 34) := ⟨_, rfl⟩
  obtain ⟨W2, hW2⟩ : ∃ W2, W2 = W1.alloc (.cells #[.int .i64 0, .int .i64 0, .slice none 0 0] 24) := ⟨_, rfl⟩
  have hB0 : Below w.heap.size w W0 := by rw [hW0]; exact (Below.refl _ _).alloc (Nat.le_refl _) _
  have hB1 : Below W0.heap.size W0 W1 := by rw [hW1]; exact (Below.refl _ _).alloc (Nat.le_refl _) _
  have hB2 : Below W1.heap.size W1 W2 := by rw [hW2]; exact (Below.refl _ _).alloc (Nat.le_refl _) _
  have hs0 : W0.heap.size = w.heap.size + 1 := by rw [hW0]; simp
  have hs1 : W1.heap.size = w.heap.size + 1 + 1 := by rw [hW1]; simp [hs0]
  have hRl : RowAt W2 w.heap.size #[.int .i64 no, .int .i64 pri, .slice A n c] 24 := by
    have h : RowAt W0 w.heap.size #[.int .i64 no, .int .i64 pri, .slice A n c] 24 := by rw [hW0]; exact RowAt.fresh w _ _
    exact (h.below hB1 h.lt).below hB2 (Nat.lt_of_lt_of_le h.lt hB1.size)
  have hRc : RowAt W2 (w.heap.size + 1) #[.string num, .string ⟨#[]⟩, .slice none 0 0, .slice (some ⟨bp, 0, none⟩) 1 1, .bool false, .bool false, .int .i64 (-1), .string ⟨#[]⟩, .int .i64 0] 34 := by
    have h : RowAt W1 (w.heap.size + 1) #[.string num, .string ⟨#[]⟩, .slice none 0 0, .slice (some ⟨bp, 0, none⟩) 1 1, .bool false, .bool false, .int .i64 (-1), .string ⟨#[]⟩, .int .i64 0] 34 := by rw [hW1, ← hs0]; exact RowAt.fresh W0 _ _
    exact h.below hB2 h.lt
  have hRz : RowAt W2 (w.heap.size + 1 + 1) #[.int .i64 0, .int .i64 0, .slice none 0 0] 24 := by rw [hW2, ← hs1]; exact RowAt.fresh W1 _ _
  have hBB := (hB0.trans (hB1.mono hB0.size)).trans (hB2.mono (Nat.le_trans hB0.size hB1.size))
  have HCk := Lib.hid (nlist_any no pri A n c X W2 (hX.below hBB) hs hok)
  have hcu : CuOK ⟨⟨num, ⟨#[]⟩, none, 0, 0, some ⟨bp, 0, none⟩, 1, 1, false, false, -1, ⟨#[]⟩, 0⟩, [], [tm0]⟩ :=
    { num := hnum, lab := ⟨Nat.zero_le _, fun c h => by cases h⟩, ms := ⟨Nat.zero_le _, fun m h => (by cases h), List.Pairwise.nil⟩, t1 := Nat.le_refl 1, t4 := show 1 ≤ 4 by decide, ts := fun t h => by simp only [List.mem_cons, List.not_mem_nil, or_false] at h; subst h; exact tm0_ok, pt := fun m h => (by cases h), fol := .inl rfl, lnk := .inl rfl, lps := show (0 : Int) ≤ 0 ∧ (0 : Int) ≤ 100 by decide, use := fun _ => rfl }
  have HCc := Lib.hid (fun V (h : Below W2.heap.size W2 V) => ncue_any num ⟨#[]⟩ none 0 0 (some ⟨bp, 0, none⟩) 1 1 false false (-1) ⟨#[]⟩ 0 [] [tm0] V ⟨Sh.In.nil _ _, (ht.below hBB).below h⟩ hcu hsz (Nat.zero_le _) (Nat.le_refl _) (Nat.zero_le _))
  have HWo := Lib.hid (fun V (h : Below W2.heap.size W2 V) => nwithout_any no pri A n c X num V ((hX.below hBB).below h) (by omega) hno)
  have HN := Lib.hid (show ∀ x ∈ X.map CV.c ++ [⟨num, ⟨#[]⟩, none, 0, 0, some ⟨bp, 0, none⟩, 1, 1, false, false, -1, ⟨#[]⟩, 0⟩], CuN x from fun x hx => by
    rcases List.mem_append.1 hx with h | h
    · obtain ⟨y, hy, rfl⟩ := List.mem_map.1 h
      exact ⟨(hs y hy).1, (hok.ok y hy).num⟩
    · rw [List.mem_singleton] at h
      subst h
      exact ⟨hsz, hnum⟩)
  have HKr := Lib.hid (show ∀ w', RowAt w' w.heap.size #[.int .i64 no, .int .i64 pri, .slice A n c] 24 → RowAt w' (w.heap.size + 1) #[.string num, .string ⟨#[]⟩, .slice none 0 0, .slice (some ⟨bp, 0, none⟩) 1 1, .bool false, .bool false, .int .i64 (-1), .string ⟨#[]⟩, .int .i64 0] 34 → w'.cell? ⟨w.heap.size, 0, none⟩ = some (.int .i64 no) ∧ w'.cell? ⟨w.heap.size, 1, none⟩ = some (.int .i64 pri) ∧ w'.cell? ⟨w.heap.size, 2, none⟩ = some (.slice A n c) ∧ w'.cell? ⟨w.heap.size + 1, 0, none⟩ = some (.string num) ∧ w'.cell? ⟨w.heap.size + 1, 1, none⟩ = some (.string ⟨#[]⟩) ∧ w'.cell? ⟨w.heap.size + 1, 2, none⟩ = some (.slice none 0 0) ∧ w'.cell? ⟨w.heap.size + 1, 3, none⟩ = some (.slice (some ⟨bp, 0, none⟩) 1 1) ∧ w'.cell? ⟨w.heap.size + 1, 4, none⟩ = some (.bool false) ∧ w'.cell? ⟨w.heap.size + 1, 5, none⟩ = some (.bool false) ∧ w'.cell? ⟨w.heap.size + 1, 6, none⟩ = some (.int .i64 (-1)) ∧ w'.cell? ⟨w.heap.size + 1, 7, none⟩ = some (.string ⟨#[]⟩) ∧ w'.cell? ⟨w.heap.size + 1, 8, none⟩ = some (.int .i64 0) from fun w' h1 h2 => ⟨h1.cell rfl, h1.cell rfl, h1.cell rfl, h2.cell rfl, h2.cell rfl, h2.cell rfl, h2.cell rfl, h2.cell rfl, h2.cell rfl, h2.cell rfl, h2.cell rfl, h2.cell rfl⟩)
  have HVs := Lib.hid (show shCu.vs (X.map CV.c ++ [⟨num, ⟨#[]⟩, none, 0, 0, some ⟨bp, 0, none⟩, 1, 1, false, false, -1, ⟨#[]⟩, 0⟩]) = shCu.vs (X.map CV.c) ++ [.string num, .string ⟨#[]⟩, .slice none 0 0, .slice (some ⟨bp, 0, none⟩) 1 1, .bool false, .bool false, .int .i64 (-1), .string ⟨#[]⟩, .int .i64 0] from by rw [Sh.vs_append]; rfl)
  have HLn := Lib.hid hln
  have HLl := Lib.hid (show (X.map CV.c ++ [(⟨num, ⟨#[]⟩, none, 0, 0, some ⟨bp, 0, none⟩, 1, 1, false, false, -1, ⟨#[]⟩, 0⟩ : Cu)]).length = n + 1 from by rw [List.length_append, List.length_map, hln]; rfl)
  have cuq_one : ∀ u ∈ ([.string num, .string ⟨#[]⟩, .slice none 0 0, .slice (some ⟨bp, 0, none⟩) 1 1, .bool false, .bool false, .int .i64 (-1), .string ⟨#[]⟩, .int .i64 0] : List Value), u.oneCell' = true := by intro u hu; simp only [List.mem_cons, List.not_mem_nil, or_false] at hu; rcases hu with h | h | h | h | h | h | h | h | h <;> subst h <;> rfl
  have HRl := Lib.hid hRl
  have HRc := Lib.hid hRc
  have HRz := Lib.hid hRz
  have HB0 := Lib.hid hBB
  have HW := Lib.hid (show W2 = ((w.alloc (.cells #[.int .i64 no, .int .i64 pri, .slice A n c] 24)).alloc (.cells #[.string num, .string ⟨#[]⟩, .slice none 0 0, .slice (some ⟨bp, 0, none⟩) 1 1, .bool false, .bool false, .int .i64 (-1), .string ⟨#[]⟩, .int .i64 0] 34)).alloc (.cells #[.int .i64 0, .int .i64 0, .slice none 0 0] 24) by rw [hW2, hW1, hW0])
  obtain ⟨a0, a1, a2, b0, b1, b2, b3, b4, b5, b6, b7, b8⟩ := HKr.out _ hRl hRc
  rw [HW.out] at a0 a1 a2 b0 b1 b2 b3 b4 b5 b6 b7 b8
  clear hW0 hW1 hW2 hB0 hB1 hB2 hs0 hs1 hRl hRc hRz hBB hX hs hok hsz hnum ht hno hcu hln
  obtain ⟨ci, hi0, hz0, hzz1, hz2⟩ := info_parts infoCu
  go_enter Tryz.func15, Tryz.ntmps15
  go_wp2_with fail
  rw [← HW.out]
  refine HCk.out.mono ?_
  rintro e w3 ⟨rfl, hb3⟩
  clear a0 a1 a2 b0 b1 b2 b3 b4 b5 b6 b7 b8
  have hR3 := HRc.out.below hb3 HRc.out.lt
  have hRl3 := HRl.out.below hb3 HRl.out.lt
  obtain ⟨a0, a1, a2, b0, b1, b2, b3, b4, b5, b6, b7, b8⟩ := HKr.out _ hRl3 hR3
  have HB3 := Lib.hid hb3
  clear hb3 hR3 hRl3
  go_wp2_with fail
  refine (HCc.out _ HB3.out).mono ?_
  rintro e w4 ⟨rfl, hb4⟩
  clear a0 a1 a2 b0 b1 b2 b3 b4 b5 b6 b7 b8
  have HB4 := Lib.hid (HB3.out.trans (hb4.mono HB3.out.size))
  clear hb4
  go_wp2_with fail
  have hB : Below W2.heap.size W2 w4.drew := HB4.out.drew
  have hRld := HRl.out.below hB HRl.out.lt
  have hRcd := HRc.out.below hB HRc.out.lt
  have HRzd := Lib.hid (HRz.out.below hB HRz.out.lt)
  obtain ⟨a0, a1, a2, b0, b1, b2, b3, b4, b5, b6, b7, b8⟩ := HKr.out _ hRld hRcd
  refine wp_region_held_drew (S := fun w' => w'.cell? ⟨w.heap.size, 0, none⟩ = some (.int .i64 no) ∧ w'.cell? ⟨w.heap.size, 1, none⟩ = some (.int .i64 pri) ∧ w'.cell? ⟨w.heap.size, 2, none⟩ = some (.slice A n c) ∧ w'.cell? ⟨w.heap.size + 1, 0, none⟩ = some (.string num) ∧ w'.cell? ⟨w.heap.size + 1, 1, none⟩ = some (.string ⟨#[]⟩) ∧ w'.cell? ⟨w.heap.size + 1, 2, none⟩ = some (.slice none 0 0) ∧ w'.cell? ⟨w.heap.size + 1, 3, none⟩ = some (.slice (some ⟨bp, 0, none⟩) 1 1) ∧ w'.cell? ⟨w.heap.size + 1, 4, none⟩ = some (.bool false) ∧ w'.cell? ⟨w.heap.size + 1, 5, none⟩ = some (.bool false) ∧ w'.cell? ⟨w.heap.size + 1, 6, none⟩ = some (.int .i64 (-1)) ∧ w'.cell? ⟨w.heap.size + 1, 7, none⟩ = some (.string ⟨#[]⟩) ∧ w'.cell? ⟨w.heap.size + 1, 8, none⟩ = some (.int .i64 0)) (by kernel_rfl) (HKr.out _ hRld hRcd) (fun hHeld => ?_)
  refine wpAnyH_take (i := 0) (oi := ?_) (v := ?_) ?_ (by kernel_rfl) (by kernel_rfl) (by kernel_rfl) ?_ (Or.inl ⟨?_, ?_⟩) (by assumption) ?_
  rotate_left 2
  · (simp only [List.getElem?_toArray, List.getElem?_cons_zero]; rfl)
  · exact fun _ _ _ h => h
  · rfl
  · (intro w hSw; (try dsimp only at hSw); go_simp; try with_reducible rfl)
  simp only [Act.put, List.setIfInBounds_toArray, List.set_cons_zero, List.set_cons_succ]
  refine wpAnyH_take (i := 1) (oi := ?_) (v := ?_) ?_ (by kernel_rfl) (by kernel_rfl) (by kernel_rfl) ?_ (Or.inl ⟨?_, ?_⟩) (by assumption) ?_
  rotate_left 2
  · (simp only [List.getElem?_toArray, List.getElem?_cons_succ, List.getElem?_cons_zero]; rfl)
  · exact fun _ _ _ h => h
  · rfl
  · (intro w hSw; (try dsimp only at hSw); go_simp; try with_reducible rfl)
  simp only [Act.put, List.setIfInBounds_toArray, List.set_cons_zero, List.set_cons_succ]
  refine wpAnyH_take (i := 2) (oi := ?_) (v := ?_) ?_ (by kernel_rfl) (by kernel_rfl) (by kernel_rfl) ?_ (Or.inl ⟨?_, ?_⟩) (by assumption) ?_
  rotate_left 2
  · (simp only [List.getElem?_toArray, List.getElem?_cons_succ, List.getElem?_cons_zero]; rfl)
  · exact fun _ _ _ h => h
  · rfl
  · (intro w hSw; (try dsimp only at hSw); go_simp; try with_reducible rfl)
  simp only [Act.put, List.setIfInBounds_toArray, List.set_cons_zero, List.set_cons_succ]
  refine wpAnyH_take (i := 3) (oi := ?_) (v := ?_) ?_ (by kernel_rfl) (by kernel_rfl) (by kernel_rfl) ?_ (Or.inl ⟨?_, ?_⟩) (by assumption) ?_
  rotate_left 2
  · (simp only [List.getElem?_toArray, List.getElem?_cons_succ, List.getElem?_cons_zero]; rfl)
  · exact fun _ _ _ h => h
  · rfl
  · (intro w hSw; (try dsimp only at hSw); go_simp; try with_reducible rfl)
  simp only [Act.put, List.setIfInBounds_toArray, List.set_cons_zero, List.set_cons_succ]
  refine wpAnyH_take (i := 5) (oi := ?_) (v := ?_) ?_ (by kernel_rfl) (by kernel_rfl) (by kernel_rfl) ?_ (Or.inl ⟨?_, ?_⟩) (by assumption) ?_
  rotate_left 2
  · (simp only [List.getElem?_toArray, List.getElem?_cons_succ, List.getElem?_cons_zero]; rfl)
  · exact fun _ _ _ h => h
  · rfl
  · (intro w hSw; (try dsimp only at hSw); go_simp; try with_reducible rfl)
  simp only [Act.put, List.setIfInBounds_toArray, List.set_cons_zero, List.set_cons_succ]
  refine wpAnyH_ready (rs := [4, 6]) (by kernel_rfl) (by simp) ?_
  refine AllReadyH.cons rfl (fun K hK => ?_) (AllReadyH.cons rfl (fun K hK => ?_) (AllReadyH.nil))
  · go_simp
    go_at_call 34
    refine (HWo.out _ hB).mono ?_
    rintro e w8 ⟨v8, rfl, hown, hb8⟩
    obtain ⟨A2, c2, rfl⟩ := own_form hown
    have hB8 := hB.trans (hb8.mono hB.size)
    have hO8 := own_weak hown hB.size
    have hRl8 := hRld.below hb8 hRld.lt
    have hRc8 := hRcd.below hb8 hRcd.lt
    have hRz8 := HRzd.out.below hb8 HRzd.out.lt
    clear hown hb8
    go_wp2_with fail
    refine hK.out _ _ (HKr.out _ hRl8 hRc8) (fun hHeld => ?_)
    clear hK K
    (try simp only [Act.put, List.setIfInBounds_toArray, List.set_cons_zero, List.set_cons_succ])
    refine wpAnyH_ready (rs := [6]) (by kernel_rfl) (by simp) ?_
    refine AllReadyH.cons rfl (fun K hK => ?_) (AllReadyH.nil)
    go_simp
    refine hK.out _ _ (HKr.out _ (hRl8.below ((Below.refl _ _).alloc (Nat.le_refl _) _) hRl8.lt) (hRc8.below ((Below.refl _ _).alloc (Nat.le_refl _) _) hRc8.lt)) (fun hHeld => ?_)
    clear hK K
    (try simp only [Act.put, List.setIfInBounds_toArray, List.set_cons_zero, List.set_cons_succ])
    refine wpAnyH_ready (rs := [7]) (by kernel_rfl) (by simp) ?_
    refine AllReadyH.cons rfl (fun K hK => ?_) (AllReadyH.nil)
    refine step_push (by rfl) _ _ _ (by rfl) W2.heap.size _ _ 9 120 Tryz.underlying22 infoCu rfl (by omega) _ n (shCu.vs (X.map CV.c)) (by rfl) hO8 [.string num, .string ⟨#[]⟩, .slice none 0 0, .slice (some ⟨bp, 0, none⟩) 1 1, .bool false, .bool false, .int .i64 (-1), .string ⟨#[]⟩, .int .i64 0] _ _ _ (by rfl) (by first | rfl | simp) rfl cuq_one (by unfold maxLen; omega) (by omega) (by first | exact hB8.size | omega | (simp; omega)) ?_
    intro g cap w1 hown1 hg1
    have hB9 := below_push hB8 (Nat.le_refl _) hO8 hg1
    have hRl9 := HRl.out.below hB9 HRl.out.lt
    have hRc9 := HRc.out.below hB9 HRc.out.lt
    have hRz9 := HRz.out.below hB9 HRz.out.lt
    refine hK.out _ _ (HKr.out _ hRl9 hRc9) (fun hHeld => ?_)
    clear hK K
    simp only [Act.put, List.setIfInBounds_toArray]
    refine wpAnyH_take (i := 8) (oi := ?_) (v := ?_) ?_ (by kernel_rfl) (by kernel_rfl) (by kernel_rfl) ?_ (Or.inl ⟨?_, ?_⟩) (by assumption) ?_
    rotate_left 2
    · (simp only [List.getElem?_toArray, List.getElem?_cons_succ, List.getElem?_cons_zero]; rfl)
    · exact fun _ _ _ h => h
    · rfl
    · (intro w hSw; (try dsimp only at hSw); go_simp; try with_reducible rfl)
    simp only [Act.put]
    refine wpAnyH_done (by kernel_rfl) ?_ _
    have hcl := cells_ownG hown1
    rw [← HVs.out] at hcl
    have hgge := own_ge hown1
    have HBx := Lib.hid hB9
    have HRz1 := Lib.hid hRz9
    have HWi := Lib.hid (nwithc_any no pri A n c g cap (X.map CV.c ++ [⟨num, ⟨#[]⟩, none, 0, 0, some ⟨bp, 0, none⟩, 1, 1, false, false, -1, ⟨#[]⟩, 0⟩]) w1 hcl HN.out (by rw [List.length_append, List.length_map, HLn.out]; show n + 1 ≤ 12; omega))
    rw [HLl.out] at HWi
    have HGg := Lib.hid (And.intro hgge hcl.1)
    have g64 : ¬ (64 : Int) < ((n + 1 : Nat) : Int) := by omega
    have g64b : ¬ (64 : Int) < (n : Int) + 1 := by omega
    obtain ⟨a0, a1, a2, b0, b1, b2, b3, b4, b5, b6, b7, b8⟩ := HKr.out w1 hRl9 hRc9
    clear hcl hgge hown1 hg1 hB9 hRz9 hRl9 hRc9 hRl8 hRc8 hRz8 hO8 hB8 hB hRld hRcd
    go_wp2_with fail
    refine HWi.out.mono ?_
    rintro e w5 ⟨d', hdp, hds, rfl, hc5, hg5⟩
    have hne : g ≠ w.heap.size + 1 + 1 := by have := HGg.out.1; have := HRz.out.lt; omega
    have hRz5 : RowAt w5 (w.heap.size + 1 + 1) #[.int .i64 0, .int .i64 0, .slice none 0 0] 24 := (hg5.block _ HRz1.out.lt (fun e => hne (by injection e with e; exact e.symm))).trans HRz1.out
    have f0 := hRz5.fr 0
    have f1 := hRz5.fr 1
    have f2 := hRz5.fr 2
    have r0 := hRz5.cell (j := 0) (u := .int .i64 0) rfl
    have r1 := hRz5.cell (j := 1) (u := .int .i64 0) rfl
    have r2 := hRz5.cell (j := 2) (u := .slice none 0 0) rfl
    have HR5 := Lib.hid hRz5
    have HD := Lib.hid (And.intro hdp (And.intro hds (And.intro hc5 hg5)))
    clear hRz5 hdp hds hc5 hg5 a0 a1 a2 b0 b1 b2 b3 b4 b5 b6 b7 b8
    go_wp2_with fail
    (try simp only [Exit.inBlock, Exit.then])
    have hr := ((HR5.out.set 0 (.int .i64 no)).set 1 (.int .i64 pri)).set 2 (.slice (some ⟨g, 0, none⟩) (n + 1) cap)
    have k0 := hr.cell (j := 0) (u := .int .i64 no) rfl
    have k1 := hr.cell (j := 1) (u := .int .i64 pri) rfl
    have k2 := hr.cell (j := 2) (u := .slice (some ⟨g, 0, none⟩) (n + 1) cap) rfl
    refine bodyPost_ret (v := .tuple #[.agg #[.int .i64 no, .int .i64 pri, .slice (some ⟨g, 0, none⟩) (n + 1) cap], .int .i64 0]) ?_ rfl ?_
    · rw [results_cell_tmp rfl]
      go_simp
    · have hb5 : Below w.heap.size w w5 := (HB0.out.trans (HBx.out.mono HB0.out.size)).grown HD.out.2.2.2 (Nat.le_trans HB0.out.size HBx.out.size) (fun q e => by cases e; have h1 := HGg.out.1; have h2 := HB0.out.size; omega)
      exact ⟨g, cap, d', rfl, HD.out.1, HD.out.2.1, ((HD.out.2.2.1.far 0 _ hne.symm).far 1 _ hne.symm).far 2 _ hne.symm, by have h1 := HGg.out.1; have h2 := HB0.out.size; omega, ((hb5.setCell (p := ⟨w.heap.size + 1 + 1, 0, none⟩) (by show w.heap.size ≤ w.heap.size + 1 + 1; omega) _).setCell (p := ⟨w.heap.size + 1 + 1, 1, none⟩) (by show w.heap.size ≤ w.heap.size + 1 + 1; omega) _).setCell (p := ⟨w.heap.size + 1 + 1, 2, none⟩) (by show w.heap.size ≤ w.heap.size + 1 + 1; omega) _⟩
  · go_simp
    obtain ⟨Va, hVa⟩ : ∃ V, V = (w4.alloc (.cells #[.string num, .string ⟨#[]⟩, .slice none 0 0, .slice (some ⟨bp, 0, none⟩) 1 1, .bool false, .bool false, .int .i64 (-1), .string ⟨#[]⟩, .int .i64 0] 34)).drew := ⟨_, rfl⟩
    rw [← hVa]
    have hba : Below w4.drew.heap.size w4.drew Va := by rw [hVa]; exact ((Below.refl _ w4.drew).alloc (Nat.le_refl _) (.cells #[.string num, .string ⟨#[]⟩, .slice none 0 0, .slice (some ⟨bp, 0, none⟩) 1 1, .bool false, .bool false, .int .i64 (-1), .string ⟨#[]⟩, .int .i64 0] 34) : Below w4.drew.heap.size w4.drew (w4.drew.alloc (.cells #[.string num, .string ⟨#[]⟩, .slice none 0 0, .slice (some ⟨bp, 0, none⟩) 1 1, .bool false, .bool false, .int .i64 (-1), .string ⟨#[]⟩, .int .i64 0] 34)))
    have hBa := hB.trans (hba.mono hB.size)
    have hNw : RowAt Va w4.heap.size #[.string num, .string ⟨#[]⟩, .slice none 0 0, .slice (some ⟨bp, 0, none⟩) 1 1, .bool false, .bool false, .int .i64 (-1), .string ⟨#[]⟩, .int .i64 0] 34 := by rw [hVa]; exact (RowAt.fresh w4.drew _ _ : RowAt (w4.drew.alloc (.cells #[.string num, .string ⟨#[]⟩, .slice none 0 0, .slice (some ⟨bp, 0, none⟩) 1 1, .bool false, .bool false, .int .i64 (-1), .string ⟨#[]⟩, .int .i64 0] 34)) w4.drew.heap.size #[.string num, .string ⟨#[]⟩, .slice none 0 0, .slice (some ⟨bp, 0, none⟩) 1 1, .bool false, .bool false, .int .i64 (-1), .string ⟨#[]⟩, .int .i64 0] 34)
    have hRla := hRld.below hba hRld.lt
    have hRca := hRcd.below hba hRcd.lt
    clear hba hVa
    refine hK.out _ _ (HKr.out _ hRla hRca) (fun hHeld => ?_)
    clear hK K
    (try simp only [Act.put, List.setIfInBounds_toArray, List.set_cons_zero, List.set_cons_succ])
    refine wpAnyH_ready (rs := [4]) (by kernel_rfl) (by simp) ?_
    refine AllReadyH.cons rfl (fun K hK => ?_) (AllReadyH.nil)
    go_simp
    go_at_call 34
    refine (HWo.out _ hBa).mono ?_
    rintro e w8 ⟨v8, rfl, hown, hb8⟩
    obtain ⟨A2, c2, rfl⟩ := own_form hown
    have hB8 := hBa.trans (hb8.mono hBa.size)
    have hO8 := own_weak hown hBa.size
    have hRl8 := hRla.below hb8 hRla.lt
    have hRc8 := hRca.below hb8 hRca.lt
    have hRz8 := True.intro
    have hN8 := hNw.below hb8 hNw.lt
    clear hown hb8 hBa hNw hRla hRca
    go_wp2_with fail
    refine hK.out _ _ (HKr.out _ hRl8 hRc8) (fun hHeld => ?_)
    clear hK K
    (try simp only [Act.put, List.setIfInBounds_toArray, List.set_cons_zero, List.set_cons_succ])
    refine wpAnyH_ready (rs := [7]) (by kernel_rfl) (by simp) ?_
    refine AllReadyH.cons rfl (fun K hK => ?_) (AllReadyH.nil)
    refine step_append_lies w8 (by rfl) _ _ _ (by rfl) W2.heap.size _ ci _ 9 120 Tryz.underlying22 hi0 hz0 hzz1 hz2 rfl (by omega) _ n (shCu.vs (X.map CV.c)) (by rfl) hO8 ⟨w4.heap.size, 0, none⟩ 1 _ [.string num, .string ⟨#[]⟩, .slice none 0 0, .slice (some ⟨bp, 0, none⟩) 1 1, .bool false, .bool false, .int .i64 (-1), .string ⟨#[]⟩, .int .i64 0] (by rfl) rfl (World.news_of_block hN8) cuq_one (by omega) (by unfold maxLen; omega) (by omega) hB8.size _ rfl ?_
    intro g cap w1 hown1 hg1 _ _
    clear hN8
    have hB9 := below_push hB8 (Nat.le_refl _) hO8 hg1
    have hRl9 := HRl.out.below hB9 HRl.out.lt
    have hRc9 := HRc.out.below hB9 HRc.out.lt
    have hRz9 := HRz.out.below hB9 HRz.out.lt
    refine hK.out _ _ (HKr.out _ hRl9 hRc9) (fun hHeld => ?_)
    clear hK K
    simp only [Act.put, List.setIfInBounds_toArray]
    refine wpAnyH_take (i := 8) (oi := ?_) (v := ?_) ?_ (by kernel_rfl) (by kernel_rfl) (by kernel_rfl) ?_ (Or.inl ⟨?_, ?_⟩) (by assumption) ?_
    rotate_left 2
    · (simp only [List.getElem?_toArray, List.getElem?_cons_succ, List.getElem?_cons_zero]; rfl)
    · exact fun _ _ _ h => h
    · rfl
    · (intro w hSw; (try dsimp only at hSw); go_simp; try with_reducible rfl)
    simp only [Act.put]
    refine wpAnyH_done (by kernel_rfl) ?_ _
    have hcl := cells_ownG hown1
    rw [← HVs.out] at hcl
    have hgge := own_ge hown1
    have HBx := Lib.hid hB9
    have HRz1 := Lib.hid hRz9
    have HWi := Lib.hid (nwithc_any no pri A n c g cap (X.map CV.c ++ [⟨num, ⟨#[]⟩, none, 0, 0, some ⟨bp, 0, none⟩, 1, 1, false, false, -1, ⟨#[]⟩, 0⟩]) w1 hcl HN.out (by rw [List.length_append, List.length_map, HLn.out]; show n + 1 ≤ 12; omega))
    rw [HLl.out] at HWi
    have HGg := Lib.hid (And.intro hgge hcl.1)
    have g64 : ¬ (64 : Int) < ((n + 1 : Nat) : Int) := by omega
    have g64b : ¬ (64 : Int) < (n : Int) + 1 := by omega
    obtain ⟨a0, a1, a2, b0, b1, b2, b3, b4, b5, b6, b7, b8⟩ := HKr.out w1 hRl9 hRc9
    clear hcl hgge hown1 hg1 hB9 hRz9 hRl9 hRc9 hRl8 hRc8 hRz8 hO8 hB8 hB hRld hRcd
    go_wp2_with fail
    refine HWi.out.mono ?_
    rintro e w5 ⟨d', hdp, hds, rfl, hc5, hg5⟩
    have hne : g ≠ w.heap.size + 1 + 1 := by have := HGg.out.1; have := HRz.out.lt; omega
    have hRz5 : RowAt w5 (w.heap.size + 1 + 1) #[.int .i64 0, .int .i64 0, .slice none 0 0] 24 := (hg5.block _ HRz1.out.lt (fun e => hne (by injection e with e; exact e.symm))).trans HRz1.out
    have f0 := hRz5.fr 0
    have f1 := hRz5.fr 1
    have f2 := hRz5.fr 2
    have r0 := hRz5.cell (j := 0) (u := .int .i64 0) rfl
    have r1 := hRz5.cell (j := 1) (u := .int .i64 0) rfl
    have r2 := hRz5.cell (j := 2) (u := .slice none 0 0) rfl
    have HR5 := Lib.hid hRz5
    have HD := Lib.hid (And.intro hdp (And.intro hds (And.intro hc5 hg5)))
    clear hRz5 hdp hds hc5 hg5 a0 a1 a2 b0 b1 b2 b3 b4 b5 b6 b7 b8
    go_wp2_with fail
    (try simp only [Exit.inBlock, Exit.then])
    have hr := ((HR5.out.set 0 (.int .i64 no)).set 1 (.int .i64 pri)).set 2 (.slice (some ⟨g, 0, none⟩) (n + 1) cap)
    have k0 := hr.cell (j := 0) (u := .int .i64 no) rfl
    have k1 := hr.cell (j := 1) (u := .int .i64 pri) rfl
    have k2 := hr.cell (j := 2) (u := .slice (some ⟨g, 0, none⟩) (n + 1) cap) rfl
    refine bodyPost_ret (v := .tuple #[.agg #[.int .i64 no, .int .i64 pri, .slice (some ⟨g, 0, none⟩) (n + 1) cap], .int .i64 0]) ?_ rfl ?_
    · rw [results_cell_tmp rfl]
      go_simp
    · have hb5 : Below w.heap.size w w5 := (HB0.out.trans (HBx.out.mono HB0.out.size)).grown HD.out.2.2.2 (Nat.le_trans HB0.out.size HBx.out.size) (fun q e => by cases e; have h1 := HGg.out.1; have h2 := HB0.out.size; omega)
      exact ⟨g, cap, d', rfl, HD.out.1, HD.out.2.1, ((HD.out.2.2.1.far 0 _ hne.symm).far 1 _ hne.symm).far 2 _ hne.symm, by have h1 := HGg.out.1; have h2 := HB0.out.size; omega, ((hb5.setCell (p := ⟨w.heap.size + 1 + 1, 0, none⟩) (by show w.heap.size ≤ w.heap.size + 1 + 1; omega) _).setCell (p := ⟨w.heap.size + 1 + 1, 1, none⟩) (by show w.heap.size ≤ w.heap.size + 1 + 1; omega) _).setCell (p := ⟨w.heap.size + 1 + 1, 2, none⟩) (by show w.heap.size ≤ w.heap.size + 1 + 1; omega) _⟩
end Go.Proofs.YtbhkfemebionnaaGreatDoor
