/- Lemmas and contracts of functions, joined for the claim: LkSs, LwQ, LwP. -/
import Derived.Test.YtbhkfemebionnaaGreatDoorMLoB
import Derived.Test.YtbhkfemebionnaaGreatDoorMFour
import Derived.Test.YtbhkfemebionnaaGreatDoorMPack
namespace Go.Proofs.YtbhkfemebionnaaGreatDoor
open Go.RowKit

set_option maxRecDepth 100000 in
set_option maxHeartbeats 16000000 in
theorem rsames_any (A : Option Addr) (n c : Nat) (A2 : Option Addr) (c2 : Nat) (HH HH2 : List Hq) (w : World) (hl : shHq.In w A n HH) (hl2 : shHq.In w A2 n HH2) (hn : n ≤ 1000)
    (hs : ∀ i (h : i < HH.length) (h2 : i < HH2.length), ∃ l, shEn.In w HH[i].A HH[i].n l ∧ shEn.In w HH2[i].A HH2[i].n l ∧ HH[i].n ≤ 9223372036854775807) :
    Calls Tryz.prog 12 #[.slice A n c, .slice A2 n c2] w fun e w' => e = .returned (.bool true) ∧ Below w.heap.size w w' := by
  have h1 : n = HH.length := hl.1
  have h2 : n = HH2.length := hl2.1
  have HL := Lib.hid hl
  have HL2 := Lib.hid hl2
  have HS := Lib.hid hs
  have H1 := Lib.hid h1
  have H2 := Lib.hid h2
  clear hl hl2 hs h1 h2
  go_enter Tryz.func12, Tryz.ntmps12
  go_wp2_with fail
  go_loopw [5] (fun iv wr => ∃ k : Nat, k ≤ n ∧ iv = .int .i64 k ∧ Below w.heap.size w wr) (fun iv _ => n - (intOf iv).toNat)
  case atStart => exact ⟨0, Nat.zero_le _, rfl, Below.refl _ _⟩
  case round =>
    obtain ⟨k, hk, rfl, hB⟩ := hrel
    by_cases hlt : k < n
    · have i0 : (0 : Int) ≤ (k : Int) := by omega
      have i1 : (k : Int) < (n : Int) := by omega
      have w0 : IntKind.i64.wrap ((k : Int) + 1) = (k : Int) + 1 := IntWalk.i64_in _ (by omega)
      have hk1 : k < HH.length := by have := H1.out; omega
      have hk2 : k < HH2.length := by have := H2.out; omega
      obtain ⟨b1, o1, rfl, hb1, hc1⟩ := hq_at HL.out (by omega)
      obtain ⟨b2, o2, rfl, hb2, hc2⟩ := hq_at HL2.out (by omega)
      have p0 := hc1 k hk1
      have p1 := hc2 k hk2
      obtain ⟨l, e1, e2, e3⟩ := HS.out k hk1 hk2
      generalize HH[k] = x1 at *
      generalize HH2[k] = x2 at *
      have HKc := Lib.hid (show ∀ V, Below w.heap.size w V → V.cell? ⟨b1, o1 + k, none⟩ = some (.slice x1.A x1.n x1.c) ∧ V.cell? ⟨b2, o2 + k, none⟩ = some (.slice x2.A x2.n x2.c) from fun V h => ⟨(h.cell (p := ⟨b1, _, none⟩) hb1).trans p0, (h.cell (p := ⟨b2, _, none⟩) hb2).trans p1⟩)
      have HSe := Lib.hid (fun V (h : Below w.heap.size w V) => rsamee_any x1.A x1.n x1.c x2.A x2.n x2.c l V (e1.below h) (e2.below h) e3)
      clear hc1 hc2 p0 p1 e1 e2 e3 hb1 hb2
      go_wp2_with fail
      replace hB := hB.drew
      obtain ⟨p0, p1⟩ := HKc.out _ hB
      refine wp_region_held_drew (S := fun w' => w'.cell? ⟨b1, o1 + k, none⟩ = some (.slice x1.A x1.n x1.c) ∧ w'.cell? ⟨b2, o2 + k, none⟩ = some (.slice x2.A x2.n x2.c)) (by kernel_rfl) (by first | exact ⟨p0, p1⟩) (fun hHeld => ?_)
      refine wpAnyH_take (i := 0) (oi := ?_) (v := ?_) ?_ (by kernel_rfl) (by kernel_rfl) (by kernel_rfl) ?_ (Or.inl ⟨?_, ?_⟩) (by assumption) ?_
      rotate_left 2
      · (simp only [List.getElem?_toArray, List.getElem?_cons_zero]; rfl)
      · exact fun _ _ _ h => h
      · rfl
      · (intro w hSw; (try dsimp only at hSw); go_simp; try with_reducible rfl)
      simp only [Act.put, List.setIfInBounds_toArray, List.set_cons_zero, List.set_cons_succ]
      refine wpAnyH_take (i := 1) (oi := ?_) (v := ?_) ?_ (by kernel_rfl) (by kernel_rfl) (by kernel_rfl) ?_ (Or.inl ⟨?_, ?_⟩) (by assumption) ?_
      rotate_left 2
      · (simp only [List.getElem?_toArray, List.getElem?_cons_succ, List.getElem?_cons_zero]; rfl)
      · exact fun _ _ _ h => h
      · rfl
      · (intro w hSw; (try dsimp only at hSw); go_simp; try with_reducible rfl)
      simp only [Act.put, List.setIfInBounds_toArray, List.set_cons_zero, List.set_cons_succ]
      refine wpAnyH_take (i := 2) (oi := ?_) (v := ?_) ?_ (by kernel_rfl) (by kernel_rfl) (by kernel_rfl) ?_ (Or.inl ⟨?_, ?_⟩) (by assumption) ?_
      rotate_left 2
      · (simp only [List.getElem?_toArray, List.getElem?_cons_succ, List.getElem?_cons_zero]; rfl)
      · exact fun _ _ _ h => h
      · rfl
      · (intro w hSw; (try dsimp only at hSw); go_simp; try with_reducible rfl)
      simp only [Act.put, List.setIfInBounds_toArray, List.set_cons_zero, List.set_cons_succ]
      refine wpAnyH_take (i := 3) (oi := ?_) (v := ?_) ?_ (by kernel_rfl) (by kernel_rfl) (by kernel_rfl) ?_ (Or.inl ⟨?_, ?_⟩) (by assumption) ?_
      rotate_left 2
      · (simp only [List.getElem?_toArray, List.getElem?_cons_succ, List.getElem?_cons_zero]; rfl)
      · exact fun _ _ _ h => h
      · rfl
      · (intro w hSw; (try dsimp only at hSw); go_simp; try with_reducible rfl)
      simp only [Act.put, List.setIfInBounds_toArray, List.set_cons_zero, List.set_cons_succ]
      refine wpAnyH_take (i := 4) (oi := ?_) (v := ?_) ?_ (by kernel_rfl) (by kernel_rfl) (by kernel_rfl) ?_ (Or.inl ⟨?_, ?_⟩) (by assumption) ?_
      rotate_left 2
      · (simp only [List.getElem?_toArray, List.getElem?_cons_succ, List.getElem?_cons_zero]; rfl)
      · exact fun _ _ _ h => h
      · rfl
      · (intro w hSw; (try dsimp only at hSw); go_simp; try with_reducible rfl)
      simp only [Act.put, List.setIfInBounds_toArray, List.set_cons_zero, List.set_cons_succ]
      refine wpAnyH_take (i := 5) (oi := ?_) (v := ?_) ?_ (by kernel_rfl) (by kernel_rfl) (by kernel_rfl) ?_ (Or.inl ⟨?_, ?_⟩) (by assumption) ?_
      rotate_left 2
      · (simp only [List.getElem?_toArray, List.getElem?_cons_succ, List.getElem?_cons_zero]; rfl)
      · exact fun _ _ _ h => h
      · rfl
      · (intro w hSw; (try dsimp only at hSw); go_simp; try with_reducible rfl)
      simp only [Act.put, List.setIfInBounds_toArray, List.set_cons_zero, List.set_cons_succ]
      refine wpAnyH_take (i := 6) (oi := ?_) (v := ?_) ?_ (by kernel_rfl) (by kernel_rfl) (by kernel_rfl) ?_ (Or.inl ⟨?_, ?_⟩) (by assumption) ?_
      rotate_left 2
      · (simp only [List.getElem?_toArray, List.getElem?_cons_succ, List.getElem?_cons_zero]; rfl)
      · exact fun _ _ _ h => h
      · rfl
      · (intro w hSw; (try dsimp only at hSw); go_simp; try with_reducible rfl)
      simp only [Act.put, List.setIfInBounds_toArray, List.set_cons_zero, List.set_cons_succ]
      refine wpAnyH_take (i := 7) (oi := ?_) (v := ?_) ?_ (by kernel_rfl) (by kernel_rfl) (by kernel_rfl) ?_ (Or.inl ⟨?_, ?_⟩) (by assumption) ?_
      rotate_left 2
      · (simp only [List.getElem?_toArray, List.getElem?_cons_succ, List.getElem?_cons_zero]; rfl)
      · exact fun _ _ _ h => h
      · rfl
      · (intro w hSw; (try dsimp only at hSw); go_simp; try with_reducible rfl)
      simp only [Act.put, List.setIfInBounds_toArray, List.set_cons_zero, List.set_cons_succ]
      refine wpAnyH_ready (rs := [8]) (by kernel_rfl) (by simp) ?_
      refine AllReadyH.cons rfl (fun K hK => ?_) AllReadyH.nil
      go_simp
      go_at_call 17; refine (HSe.out _ hB).mono ?_; rintro e w7 ⟨rfl, hb7⟩; replace hB := hB.trans (hb7.mono hB.size); clear hb7; obtain ⟨p0, p1⟩ := HKc.out _ hB
      go_wp2_with fail
      refine hK.out _ _ (by first | exact ⟨p0, p1⟩) (fun hHeld => ?_)
      clear hK K
      try simp only [Act.put, List.setIfInBounds_toArray, List.set_cons_zero, List.set_cons_succ]
      refine wpAnyH_take (i := 9) (oi := ?_) (v := ?_) ?_ (by kernel_rfl) (by kernel_rfl) (by kernel_rfl) ?_ (Or.inl ⟨?_, ?_⟩) (by assumption) ?_
      rotate_left 2
      · (simp only [List.getElem?_toArray, List.getElem?_cons_succ, List.getElem?_cons_zero]; rfl)
      · exact fun _ _ _ h => h
      · rfl
      · (intro w hSw; (try dsimp only at hSw); go_simp; try with_reducible rfl)
      simp only [Act.put, List.setIfInBounds_toArray, List.set_cons_zero, List.set_cons_succ]
      refine wpAnyH_done (by kernel_rfl) ?_ _
      go_wp2_with fail
      go_roundw
      case rel => exact ⟨k + 1, hlt, by go_num, hB⟩
      case measure => simp [intOf]; omega
    · obtain rfl : k = n := by omega
      go_wp2_with fail
      go_ret
      exact ⟨rfl, hB⟩
set_option maxRecDepth 100000 in
set_option maxHeartbeats 8000000 in
theorem rwith_any (no pri : Int) (A : Option Addr) (n c : Nat) (A2 : Option Addr) (n2 c2 : Nat) (w : World) :
    Calls Tryz.prog 7 #[.agg #[.int .i64 no, .int .i64 pri, .slice A n c], .slice A2 n2 c2] w fun e w' => e = .returned (.agg #[.int .i64 no, .int .i64 pri, .slice A2 n2 c2]) ∧ Below w.heap.size w w' := by
  go_enter Tryz.func7, Tryz.ntmps7
  go_wp2_with fail
  (try simp only [Exit.inBlock, Exit.then])
  refine bodyPost_ret (v := .agg #[.int .i64 no, .int .i64 pri, .slice A2 n2 c2]) ?_ rfl ⟨rfl, ?_⟩
  · rw [res_cell1 rfl]
    go_simp
  · exact ((Below.refl _ _).alloc (Nat.le_refl _) _).alloc (by simp) _
end Go.Proofs.YtbhkfemebionnaaGreatDoor

namespace Go.Proofs.YtbhkfemebionnaaGreatDoor
open Go.RowKit

def FarA (g : Nat) (A : Option Addr) (n : Nat) : Prop := 0 < n → ∀ b o, A = some ⟨b, o, none⟩ → b ≠ g
theorem Sh.In.farA {α : Type} {S : Sh α} {w : World} {A : Option Addr} {n : Nat} {l : List α} (h : S.In w A n l) {g : Nat} (hg : FarA g A n) (j : Nat) (v : Value) : S.In (w.setCell ⟨g, j, none⟩ v) A n l :=
  ⟨h.1, h.2.1, fun h0 => by
    obtain ⟨b, o, e, hb, hc⟩ := h.2.2 h0
    have hne := hg h0 b o e
    exact ⟨b, o, e, by rw [World.size_setCell]; exact hb, fun j' u hu => (World.cell?_setCell_other w ⟨g, j, none⟩ ⟨b, o + j', none⟩ v (fun e => by injection e with e; exact hne e.symm)).trans (hc j' u hu)⟩⟩
theorem Sh.In.farOf {α : Type} {S : Sh α} {w : World} {A : Option Addr} {n : Nat} {l : List α} (h : S.In w A n l) {g : Nat} (hg : w.heap.size ≤ g) : FarA g A n := fun h0 b o e => by
  obtain ⟨b', o', e', hb, -⟩ := h.2.2 h0
  rw [e] at e'
  injection e' with e'
  injection e' with e1 e2
  omega

structure InG (g : Nat) (w : World) (x : CV) : Prop where
  m : shMv.In w x.c.MA x.c.mn x.ms
  fm : FarA g x.c.MA x.c.mn
  t : shTm.In w x.c.PA x.c.pn x.ts
  ft : FarA g x.c.PA x.c.pn
theorem InG.below {g : Nat} {w w' : World} {x : CV} (h : InG g w x) (hb : Below w.heap.size w w') : InG g w' x := ⟨h.m.below hb, h.fm, h.t.below hb, h.ft⟩
theorem InG.set {g : Nat} {w : World} {x : CV} (h : InG g w x) (j : Nat) (v : Value) : InG g (w.setCell ⟨g, j, none⟩ v) x := ⟨h.m.farA h.fm j v, h.fm, h.t.farA h.ft j v, h.ft⟩
theorem InG.of {w : World} {x : CV} (h : x.In w) {g : Nat} (hg : w.heap.size ≤ g) : InG g w x := ⟨h.1, h.1.farOf hg, h.2, h.2.farOf hg⟩
theorem vs_setC : ∀ (l : List Cu) (k : Nat) (_ : k < l.length) (v : Cu), (((((((((shCu.vs l).set (k * 9) (.string v.num)).set (k * 9 + 1) (.string v.lab)).set (k * 9 + 2) (.slice v.MA v.mn v.mc)).set (k * 9 + 3) (.slice v.PA v.pn v.pc)).set (k * 9 + 4) (.bool v.blk)).set (k * 9 + 5) (.bool v.mrk)).set (k * 9 + 6) (.int .i64 v.fol)).set (k * 9 + 7) (.string v.lnk)).set (k * 9 + 8) (.int .i64 v.lps) = shCu.vs (l.set k v)
  | a :: t, 0, _, _ => rfl
  | a :: t, k + 1, h, v => by
    have ih := vs_setC t k (by simpa using h) v
    show (((((((((Value.string a.num :: .string a.lab :: .slice a.MA a.mn a.mc :: .slice a.PA a.pn a.pc :: .bool a.blk :: .bool a.mrk :: .int .i64 a.fol :: .string a.lnk :: .int .i64 a.lps :: shCu.vs t).set ((k + 1) * 9) _).set ((k + 1) * 9 + 1) _).set ((k + 1) * 9 + 2) _).set ((k + 1) * 9 + 3) _).set ((k + 1) * 9 + 4) _).set ((k + 1) * 9 + 5) _).set ((k + 1) * 9 + 6) _).set ((k + 1) * 9 + 7) _).set ((k + 1) * 9 + 8) _ = Value.string a.num :: .string a.lab :: .slice a.MA a.mn a.mc :: .slice a.PA a.pn a.pc :: .bool a.blk :: .bool a.mrk :: .int .i64 a.fol :: .string a.lnk :: .int .i64 a.lps :: shCu.vs (t.set k v)
    rw [show (k + 1) * 9 = k * 9 + 1 + 1 + 1 + 1 + 1 + 1 + 1 + 1 + 1 by omega, show k * 9 + 1 + 1 + 1 + 1 + 1 + 1 + 1 + 1 + 1 + 2 = k * 9 + 2 + 1 + 1 + 1 + 1 + 1 + 1 + 1 + 1 + 1 by omega, show k * 9 + 1 + 1 + 1 + 1 + 1 + 1 + 1 + 1 + 1 + 3 = k * 9 + 3 + 1 + 1 + 1 + 1 + 1 + 1 + 1 + 1 + 1 by omega, show k * 9 + 1 + 1 + 1 + 1 + 1 + 1 + 1 + 1 + 1 + 4 = k * 9 + 4 + 1 + 1 + 1 + 1 + 1 + 1 + 1 + 1 + 1 by omega, show k * 9 + 1 + 1 + 1 + 1 + 1 + 1 + 1 + 1 + 1 + 5 = k * 9 + 5 + 1 + 1 + 1 + 1 + 1 + 1 + 1 + 1 + 1 by omega, show k * 9 + 1 + 1 + 1 + 1 + 1 + 1 + 1 + 1 + 1 + 6 = k * 9 + 6 + 1 + 1 + 1 + 1 + 1 + 1 + 1 + 1 + 1 by omega, show k * 9 + 1 + 1 + 1 + 1 + 1 + 1 + 1 + 1 + 1 + 7 = k * 9 + 7 + 1 + 1 + 1 + 1 + 1 + 1 + 1 + 1 + 1 by omega, show k * 9 + 1 + 1 + 1 + 1 + 1 + 1 + 1 + 1 + 1 + 8 = k * 9 + 8 + 1 + 1 + 1 + 1 + 1 + 1 + 1 + 1 + 1 by omega]
    simp only [List.set_cons_succ]
    rw [ih]
theorem cu_cells (l : List Cu) (k : Nat) (hk : k < l.length) (j : Nat) (u : Value) (hj : j < 9) (hu : (l[k].cells)[j]? = some u) : (shCu.vs l)[k * 9 + j]? = some u :=
  (shCu.vs_at l k hk j hj).trans hu

structure PtR (X : List CV) (A2 : Option Addr) (g : Nat) (XO : List CV) (wr : World) : Prop where
  len : XO.length = X.length
  sk : XO.map CV.sk = X.map CV.sk
  fit : ∀ x ∈ XO, x.fitS
  row : 0 < X.length → A2 = some ⟨g, 0, none⟩ ∧ Cells wr g (shCu.vs (XO.map CV.c))
  ing : ∀ x ∈ XO, InG g wr x
theorem PtR.below {X : List CV} {A2 : Option Addr} {g : Nat} {XO : List CV} {wr w' : World} (h : PtR X A2 g XO wr) (hb : Below wr.heap.size wr w') : PtR X A2 g XO w' :=
  ⟨h.len, h.sk, h.fit, fun h0 => ⟨(h.row h0).1, (h.row h0).2.below hb (h.row h0).2.1⟩, fun x hx => (h.ing x hx).below hb⟩
theorem ownq_cap {w : World} {base sz k n c : Nat} {e : TypeId} {A : Option Addr} {xs : List Value} (h : w.ownsRow base e sz (.slice A n c) k xs) : n ≤ c ∧ c ≤ 9223372036854775807 := by
  obtain ⟨_, ⟨h1, _⟩ | ⟨g, cap, cur, h1, _, _, h2, h3, _⟩⟩ := h
  · cases h1; exact ⟨Nat.le_refl _, Nat.zero_le _⟩
  · cases h1; exact ⟨h2, h3⟩

def Mv.one (m : Mv) : Mv := ⟨m.ch, m.atr, m.pa, m.le, 1⟩
theorem one_q (l : List Mv) : (l.map Mv.one).map Mv.q = l.map Mv.q := by rw [List.map_map]; rfl
theorem sk_set {X XO : List CV} {i : Nat} (hi : i < X.length) (h : XO.map CV.sk = X.map CV.sk) {y : CV} (hy : y.sk = X[i].sk) : (XO.set i y).map CV.sk = X.map CV.sk := by
  rw [List.map_set, h, hy]
  refine List.ext_getElem (by simp) fun k h1 h2 => ?_
  rw [List.getElem_set]
  by_cases hk : i = k
  · subst hk; simp
  · simp [hk]
end Go.Proofs.YtbhkfemebionnaaGreatDoor

namespace Go.Proofs.YtbhkfemebionnaaGreatDoor
open Go.RowKit

set_option maxRecDepth 100000 in
set_option maxHeartbeats 32000000 in
theorem tparts_walk (no pri : Int) (A : Option Addr) (n c : Nat) (X : List CV) (up dn po co be de : Int) (w : World) (hX : InC w A n X) (hf : ∀ x ∈ X, x.fitS) (hn : n ≤ 9223372036854775807) :
    Calls Tryz.prog 3 #[.agg #[.int .i64 no, .int .i64 pri, .slice A n c], .agg #[.int .i64 up, .int .i64 dn, .int .i64 po, .int .i64 co, .int .i64 be, .int .i64 de]] w fun e w' => e = .returned (.bool true) ∧ Below w.heap.size w w' := by
  have hn2 : n = X.length := hX.len
  subst hn2
  have hfit : ∀ x ∈ X, x.fit := fun x hx => ⟨(hf x hx).1, (hf x hx).2.1⟩
  obtain ⟨W, hW⟩ : ∃ W, W = ((w.alloc (.cells #[.int .i64 no, .int .i64 pri, .slice A X.length c] 24)).alloc (.cells #[.int .i64 up, .int .i64 dn, .int .i64 po, .int .i64 co, .int .i64 be, .int .i64 de] 26)) := ⟨_, rfl⟩
  obtain ⟨hB0, hK0⟩ := box2 #[.int .i64 no, .int .i64 pri, .slice A X.length c] 24 #[.int .i64 up, .int .i64 dn, .int .i64 po, .int .i64 co, .int .i64 be, .int .i64 de] 26 w W hW
  have hK : ∀ w', Below W.heap.size W w' → w'.cell? ⟨w.heap.size, 0, none⟩ = some (.int .i64 no) ∧ w'.cell? ⟨w.heap.size, 1, none⟩ = some (.int .i64 pri) ∧ w'.cell? ⟨w.heap.size, 2, none⟩ = some (.slice A X.length c) ∧ w'.cell? ⟨w.heap.size + 1, 0, none⟩ = some (.int .i64 up) ∧ w'.cell? ⟨w.heap.size + 1, 1, none⟩ = some (.int .i64 dn) ∧ w'.cell? ⟨w.heap.size + 1, 2, none⟩ = some (.int .i64 po) ∧ w'.cell? ⟨w.heap.size + 1, 3, none⟩ = some (.int .i64 co) ∧ w'.cell? ⟨w.heap.size + 1, 4, none⟩ = some (.int .i64 be) ∧ w'.cell? ⟨w.heap.size + 1, 5, none⟩ = some (.int .i64 de) := fun w' h => ⟨(hK0 w' h).1 0 _ rfl, (hK0 w' h).1 1 _ rfl, (hK0 w' h).1 2 _ rfl, (hK0 w' h).2 0 _ rfl, (hK0 w' h).2 1 _ rfl, (hK0 w' h).2 2 _ rfl, (hK0 w' h).2 3 _ rfl, (hK0 w' h).2 4 _ rfl, (hK0 w' h).2 5 _ rfl⟩
  have HK := Lib.hid hK
  have HW := Lib.hid hW
  have HB0 := Lib.hid hB0
  have hB := Below.refl W.heap.size W
  obtain ⟨c0, c1, c2, c3, c4, c5, c6, c7, c8⟩ := hK W hB
  clear hW hB0 hK hK0
  have HX := Lib.hid (hX.below HB0.out)
  have HCs := Lib.hid (fun V (h : Below W.heap.size W V) => caselist_any no pri A X.length c X V (hX.below (HB0.out.trans (h.mono HB0.out.size))) hfit hn)
  have HFs := Lib.hid hf
  clear hX hf hfit hn
  go_enter Tryz.func3, Tryz.ntmps3
  go_wp2_with fail
  rw [← HW.out]
  refine (HCs.out _ hB).mono ?_
  rintro e W1 ⟨⟨b, rfl, hbl⟩, hb⟩
  have hBw := HB0.out.trans (hb.mono HB0.out.size)
  have hsz1 := hb.size
  have HK1 := Lib.hid (fun V (h : Below W1.heap.size W1 V) => HK.out V (hb.trans (h.mono hb.size)))
  have HX1 := Lib.hid (HX.out.below hb)
  have HBw := Lib.hid hBw
  have HBl := Lib.hid hbl
  clear hB c0 c1 c2 c3 c4 c5 c6 c7 c8 hb hbl hBw HCs
  cases b with
  | false =>
    go_wp2_with fail
    refine (caselooks_any W1).mono ?_
    rintro e w2 ⟨rfl, hb2⟩
    go_wp2_with fail
    go_ret
    exact ⟨rfl, HBw.out.trans (hb2.mono HBw.out.size)⟩
  | true =>
    have hok := HBl.out rfl
    have HOk := Lib.hid hok
    have hX64 := hok.few
    obtain ⟨c0, c1, c2, c3, c4, c5, c6, c7, c8⟩ := HK1.out _ (Below.refl _ _)
    have hB : Below W1.heap.size W1 W1.drew := (Below.refl _ _).drew
    have HCl := Lib.hid (fun V (h : Below W1.heap.size W1 V) => clone_cus A X.length c (X.map CV.c) V (HX1.out.1.below h) (by omega))
    have HKt := Lib.hid (show ∀ w', Below W1.heap.size W1 w' → w'.cell? ⟨w.heap.size + 1, 0, none⟩ = some (.int .i64 up) ∧ w'.cell? ⟨w.heap.size + 1, 1, none⟩ = some (.int .i64 dn) ∧ w'.cell? ⟨w.heap.size + 1, 2, none⟩ = some (.int .i64 po) ∧ w'.cell? ⟨w.heap.size + 1, 3, none⟩ = some (.int .i64 co) ∧ w'.cell? ⟨w.heap.size + 1, 4, none⟩ = some (.int .i64 be) ∧ w'.cell? ⟨w.heap.size + 1, 5, none⟩ = some (.int .i64 de) from fun V h => by
      obtain ⟨-, -, -, d⟩ := HK1.out V h
      exact d)
    have HKc := Lib.hid (show ∀ w', Below W1.heap.size W1 w' → w'.cell? ⟨w.heap.size, 0, none⟩ = some (.int .i64 no) ∧ w'.cell? ⟨w.heap.size, 1, none⟩ = some (.int .i64 pri) ∧ w'.cell? ⟨w.heap.size, 2, none⟩ = some (.slice A X.length c) from fun V h => by
      obtain ⟨d0, d1, d2, -⟩ := HK1.out V h
      exact ⟨d0, d1, d2⟩)
    clear hok HBl
    go_wp2_with fail
    clear c0 c1 c2 c3 c4 c5 c6 c7 c8
    refine Code.wp_mono (Q := fun e a' V => ∃ (B : Nat) (A2 : Option Addr) (c2 : Nat), e = .normal ∧ a' = { tmps := #[.agg #[.int .i64 no, .int .i64 pri, .slice A X.length c], .agg #[.int .i64 up, .int .i64 dn, .int .i64 po, .int .i64 co, .int .i64 be, .int .i64 de], .pointer (some ⟨w.heap.size, 0, none⟩), .pointer (some ⟨w.heap.size + 1, 0, none⟩), .bool false, .pointer (some ⟨B, 0, none⟩), undef, undef, undef, undef, undef, undef, undef, undef, undef, undef, undef, .agg #[.int .i64 no, .int .i64 pri, .slice A X.length c], .bool true, .bool false, undef, .agg #[.int .i64 no, .int .i64 pri, .slice A X.length c], .pointer (some ⟨w.heap.size, 2, none⟩), .slice A X.length c, .slice A2 X.length c2, .agg #[.int .i64 no, .int .i64 pri, .slice A2 X.length c2], undef, undef, undef, undef, undef, undef, undef, undef, undef, undef, undef, undef, undef, undef, undef, undef, undef, undef, undef, undef, undef, undef, undef, undef, undef, undef, undef, undef, undef, undef, undef, undef, undef, undef, undef, undef, undef, undef, undef, undef, undef, undef, undef, undef, undef, undef, undef, undef, undef, undef, undef, undef, undef, undef, undef, undef, undef, undef, undef, undef, undef, undef, undef, undef, undef, undef, undef, undef, undef, undef, undef, undef, undef], defers := [] } ∧ RowAt V B #[.int .i64 no, .int .i64 pri, .slice A2 X.length c2] 24 ∧ V.ownsRow W1.heap.size 34 9 (.slice A2 X.length c2) X.length (shCu.vs (X.map CV.c)) ∧ W1.heap.size ≤ B ∧ Below W1.heap.size W1 V) ?cont ?reg
    case reg =>
      refine wp_region_held_drew (S := fun w' => w'.cell? ⟨w.heap.size, 0, none⟩ = some (.int .i64 no) ∧ w'.cell? ⟨w.heap.size, 1, none⟩ = some (.int .i64 pri) ∧ w'.cell? ⟨w.heap.size, 2, none⟩ = some (.slice A X.length c)) (by kernel_rfl) (HKc.out _ hB) (fun hHeld => ?_)
      refine wpAnyH_take (i := 0) (oi := ?_) (v := ?_) ?_ (by kernel_rfl) (by kernel_rfl) (by kernel_rfl) ?_ (Or.inl ⟨?_, ?_⟩) (by assumption) ?_
      rotate_left 2
      · (simp only [List.getElem?_toArray, List.getElem?_cons_zero]; rfl)
      · exact fun _ _ _ h => by obtain ⟨_, _, _, h, _⟩ := h; cases h
      · rfl
      · (intro w hSw; (try dsimp only at hSw); go_simp; try with_reducible rfl)
      simp only [Act.put, List.setIfInBounds_toArray, List.set_cons_zero, List.set_cons_succ]
      refine wpAnyH_take (i := 1) (oi := ?_) (v := ?_) ?_ (by kernel_rfl) (by kernel_rfl) (by kernel_rfl) ?_ (Or.inl ⟨?_, ?_⟩) (by assumption) ?_
      rotate_left 2
      · (simp only [List.getElem?_toArray, List.getElem?_cons_succ, List.getElem?_cons_zero]; rfl)
      · exact fun _ _ _ h => by obtain ⟨_, _, _, h, _⟩ := h; cases h
      · rfl
      · (intro w hSw; (try dsimp only at hSw); go_simp; try with_reducible rfl)
      simp only [Act.put, List.setIfInBounds_toArray, List.set_cons_zero, List.set_cons_succ]
      refine wpAnyH_take (i := 2) (oi := ?_) (v := ?_) ?_ (by kernel_rfl) (by kernel_rfl) (by kernel_rfl) ?_ (Or.inl ⟨?_, ?_⟩) (by assumption) ?_
      rotate_left 2
      · (simp only [List.getElem?_toArray, List.getElem?_cons_succ, List.getElem?_cons_zero]; rfl)
      · exact fun _ _ _ h => by obtain ⟨_, _, _, h, _⟩ := h; cases h
      · rfl
      · (intro w hSw; (try dsimp only at hSw); go_simp; try with_reducible rfl)
      simp only [Act.put, List.setIfInBounds_toArray, List.set_cons_zero, List.set_cons_succ]
      refine wpAnyH_ready (rs := [3, 5]) (by kernel_rfl) (by simp) ?_
      refine AllReadyH.cons rfl (fun K hK => ?_) (AllReadyH.cons rfl (fun K hK => ?_) (AllReadyH.nil))
      · go_simp
        go_at_call 8
        refine (HCl.out _ hB).mono ?_
        rintro e w8 ⟨v8, rfl, hown, hb8⟩
        obtain ⟨A2, c2, rfl⟩ := own_form hown
        replace hB := hB.trans (hb8.mono hB.size)
        have hown8 := hown
        have hgB := hB.size
        go_wp2_with fail
        refine hK.out _ _ (HKc.out _ hB) (fun hHeld => ?_)
        clear hK K
        try simp only [Act.put, List.setIfInBounds_toArray, List.set_cons_zero, List.set_cons_succ]
        refine wpAnyH_ready (rs := [4, 5]) (by kernel_rfl) (by simp) ?_
        refine AllReadyH.cons rfl (fun K hK => ?_) (AllReadyH.cons rfl (fun K hK => ?_) (AllReadyH.nil))
        · go_simp
          go_at_call 7
          refine (rwith_any no pri A X.length c A2 X.length c2 _).mono ?_
          rintro e w9 ⟨rfl, hb9⟩
          have hown9 := own_weak (ownq_below hown8 hb9) (Nat.le_refl _)
          replace hB := hB.trans (hb9.mono hB.size)
          go_wp2_with fail
          refine hK.out _ _ (HKc.out _ hB) (fun hHeld => ?_)
          clear hK K
          try simp only [Act.put, List.setIfInBounds_toArray, List.set_cons_zero, List.set_cons_succ]
          refine wpAnyH_ready (rs := [5]) (by kernel_rfl) (by simp) ?_
          refine AllReadyH.cons rfl (fun K hK => ?_) (AllReadyH.nil)
          have hRf : RowAt (w9.alloc (.cells #[.int .i64 no, .int .i64 pri, .slice A2 X.length c2] 24)) w9.heap.size #[.int .i64 no, .int .i64 pri, .slice A2 X.length c2] 24 := RowAt.fresh w9 _ _
          have hbf : Below w9.heap.size w9 (w9.alloc (.cells #[.int .i64 no, .int .i64 pri, .slice A2 X.length c2] 24)) := (Below.refl _ _).alloc (Nat.le_refl _) _
          have hbz : Below w9.heap.size w9 (w9.alloc (.cells #[.int .i64 0, .int .i64 0, .slice none 0 0] 24)) := (Below.refl _ _).alloc (Nat.le_refl _) _
          have HF := Lib.hid (And.intro hRf (And.intro (ownq_below hown9 hbf) (hB.trans (hbf.mono hB.size))))
          have HFz := Lib.hid (hB.trans (hbz.mono hB.size))
          have HGe := Lib.hid hB.size
          clear hRf hbf hbz
          go_simp
          refine hK.out _ _ (HKc.out _ HFz.out) (fun hHeld => ?_)
          clear hK K
          try simp only [Act.put, List.setIfInBounds_toArray, List.set_cons_zero, List.set_cons_succ]
          refine wpAnyH_ready (rs := [6]) (by kernel_rfl) (by simp) ?_
          refine AllReadyH.cons rfl (fun K hK => ?_) (AllReadyH.nil)
          go_simp
          refine hK.out _ _ (HKc.out _ HF.out.2.2) (fun hHeld => ?_)
          clear hK K
          try simp only [Act.put, List.setIfInBounds_toArray, List.set_cons_zero, List.set_cons_succ]
          refine wpAnyH_done (by kernel_rfl) ?_ _
          exact ⟨w9.heap.size, A2, c2, rfl, rfl, HF.out.1, HF.out.2.1, HGe.out, HF.out.2.2⟩
        · have hRz8 := RowAt.fresh w8 #[.int .i64 0, .int .i64 0, .slice none 0 0] 24
          have hbz : Below w8.heap.size w8 (w8.alloc (.cells #[.int .i64 0, .int .i64 0, .slice none 0 0] 24)) := (Below.refl _ _).alloc (Nat.le_refl _) _
          have hO8 := ownq_below hown8 hbz
          have hB8 := hB.trans (hbz.mono hB.size)
          have HGe := Lib.hid hB.size
          obtain ⟨V8, hV8⟩ : ∃ V8, V8 = w8.alloc (.cells #[.int .i64 0, .int .i64 0, .slice none 0 0] 24) := ⟨_, rfl⟩
          rw [← hV8] at hRz8 hO8 hB8
          go_simp
          rw [← hV8]
          clear hV8
          refine hK.out _ _ (HKc.out _ hB8) (fun hHeld => ?_)
          clear hK K
          try simp only [Act.put, List.setIfInBounds_toArray, List.set_cons_zero, List.set_cons_succ]
          refine wpAnyH_ready (rs := [4]) (by kernel_rfl) (by simp) ?_
          refine AllReadyH.cons rfl (fun K hK => ?_) (AllReadyH.nil)
          go_simp
          go_at_call 7
          refine (rwith_any no pri A X.length c A2 X.length c2 _).mono ?_
          rintro e w9 ⟨rfl, hb9⟩
          have hB9 := hB8.trans (hb9.mono hB8.size)
          go_wp2_with fail
          refine hK.out _ _ (HKc.out _ hB9) (fun hHeld => ?_)
          clear hK K
          try simp only [Act.put, List.setIfInBounds_toArray, List.set_cons_zero, List.set_cons_succ]
          refine wpAnyH_ready (rs := [6]) (by kernel_rfl) (by simp) ?_
          refine AllReadyH.cons rfl (fun K hK => ?_) (AllReadyH.nil)
          have hRz : RowAt w9 w8.heap.size #[.int .i64 0, .int .i64 0, .slice none 0 0] 24 := hRz8.below hb9 hRz8.lt
          have f0 := hRz.fr 0
          have r0 := hRz.cell (j := 0) (u := .int .i64 0) rfl
          have f1 := hRz.fr 1
          have r1 := hRz.cell (j := 1) (u := .int .i64 0) rfl
          have f2 := hRz.fr 2
          have r2 := hRz.cell (j := 2) (u := .slice none 0 0) rfl
          have hRf : RowAt (((w9.setCell ⟨w8.heap.size, 0, none⟩ (.int .i64 no)).setCell ⟨w8.heap.size, 1, none⟩ (.int .i64 pri)).setCell ⟨w8.heap.size, 2, none⟩ (.slice A2 X.length c2)) w8.heap.size #[.int .i64 no, .int .i64 pri, .slice A2 X.length c2] 24 := ((hRz.set 0 (.int .i64 no)).set 1 (.int .i64 pri)).set 2 (.slice A2 X.length c2)
          have hOf := own_setq (own_setq (own_setq (ownq_below hO8 hb9) hRz (by decide) 0 (.int .i64 no)) (hRz.set 0 (.int .i64 no)) (by decide) 1 (.int .i64 pri)) ((hRz.set 0 (.int .i64 no)).set 1 (.int .i64 pri)) (by decide) 2 (.slice A2 X.length c2)
          have hBf := (((hB9).setCell (p := ⟨w8.heap.size, 0, none⟩) HGe.out (.int .i64 no)).setCell (p := ⟨w8.heap.size, 1, none⟩) HGe.out (.int .i64 pri)).setCell (p := ⟨w8.heap.size, 2, none⟩) HGe.out (.slice A2 X.length c2)
          have HF := Lib.hid (And.intro hRf (And.intro hOf hBf))
          clear hRf hOf hBf
          go_simp
          refine hK.out _ _ (HKc.out _ HF.out.2.2) (fun hHeld => ?_)
          clear hK K
          try simp only [Act.put, List.setIfInBounds_toArray, List.set_cons_zero, List.set_cons_succ]
          refine wpAnyH_done (by kernel_rfl) ?_ _
          exact ⟨w8.heap.size, A2, c2, rfl, rfl, HF.out.1, HF.out.2.1, HGe.out, HF.out.2.2⟩
      · have hRz8 : RowAt (W1.alloc (.cells #[.int .i64 0, .int .i64 0, .slice none 0 0] 24)).drew W1.heap.size #[.int .i64 0, .int .i64 0, .slice none 0 0] 24 := RowAt.fresh W1 _ _
        have hB8 : Below W1.heap.size W1 (W1.alloc (.cells #[.int .i64 0, .int .i64 0, .slice none 0 0] 24)).drew := ((Below.refl _ _).alloc (Nat.le_refl _) _).drew
        obtain ⟨V8, hV8⟩ : ∃ V8, V8 = (W1.alloc (.cells #[.int .i64 0, .int .i64 0, .slice none 0 0] 24)).drew := ⟨_, rfl⟩
        rw [← hV8] at hRz8 hB8
        go_simp
        rw [← hV8]
        clear hV8
        refine hK.out _ _ (HKc.out _ hB8) (fun hHeld => ?_)
        clear hK K
        try simp only [Act.put, List.setIfInBounds_toArray, List.set_cons_zero, List.set_cons_succ]
        refine wpAnyH_ready (rs := [3]) (by kernel_rfl) (by simp) ?_
        refine AllReadyH.cons rfl (fun K hK => ?_) (AllReadyH.nil)
        go_simp
        go_at_call 8
        refine (HCl.out _ hB8).mono ?_
        rintro e w8 ⟨v8, rfl, hown, hb8⟩
        obtain ⟨A2, c2, rfl⟩ := own_form hown
        have hB9 := hB8.trans (hb8.mono hB8.size)
        have hown8 := own_weak hown hB8.size
        go_wp2_with fail
        refine hK.out _ _ (HKc.out _ hB9) (fun hHeld => ?_)
        clear hK K
        try simp only [Act.put, List.setIfInBounds_toArray, List.set_cons_zero, List.set_cons_succ]
        refine wpAnyH_ready (rs := [4]) (by kernel_rfl) (by simp) ?_
        refine AllReadyH.cons rfl (fun K hK => ?_) (AllReadyH.nil)
        go_simp
        go_at_call 7
        refine (rwith_any no pri A X.length c A2 X.length c2 _).mono ?_
        rintro e w9 ⟨rfl, hb9⟩
        have hB10 := hB9.trans (hb9.mono hB9.size)
        go_wp2_with fail
        refine hK.out _ _ (HKc.out _ hB10) (fun hHeld => ?_)
        clear hK K
        try simp only [Act.put, List.setIfInBounds_toArray, List.set_cons_zero, List.set_cons_succ]
        refine wpAnyH_ready (rs := [6]) (by kernel_rfl) (by simp) ?_
        refine AllReadyH.cons rfl (fun K hK => ?_) (AllReadyH.nil)
        have hRz : RowAt w9 W1.heap.size #[.int .i64 0, .int .i64 0, .slice none 0 0] 24 := (hRz8.below hb8 hRz8.lt).below hb9 (Nat.lt_of_lt_of_le hRz8.lt hb8.size)
        have f0 := hRz.fr 0
        have r0 := hRz.cell (j := 0) (u := .int .i64 0) rfl
        have f1 := hRz.fr 1
        have r1 := hRz.cell (j := 1) (u := .int .i64 0) rfl
        have f2 := hRz.fr 2
        have r2 := hRz.cell (j := 2) (u := .slice none 0 0) rfl
        have hRf : RowAt (((w9.setCell ⟨W1.heap.size, 0, none⟩ (.int .i64 no)).setCell ⟨W1.heap.size, 1, none⟩ (.int .i64 pri)).setCell ⟨W1.heap.size, 2, none⟩ (.slice A2 X.length c2)) W1.heap.size #[.int .i64 no, .int .i64 pri, .slice A2 X.length c2] 24 := ((hRz.set 0 (.int .i64 no)).set 1 (.int .i64 pri)).set 2 (.slice A2 X.length c2)
        have hOf := own_setq (own_setq (own_setq (ownq_below hown8 hb9) hRz (by decide) 0 (.int .i64 no)) (hRz.set 0 (.int .i64 no)) (by decide) 1 (.int .i64 pri)) ((hRz.set 0 (.int .i64 no)).set 1 (.int .i64 pri)) (by decide) 2 (.slice A2 X.length c2)
        have hBf := (((hB10).setCell (p := ⟨W1.heap.size, 0, none⟩) (Nat.le_refl _) (.int .i64 no)).setCell (p := ⟨W1.heap.size, 1, none⟩) (Nat.le_refl _) (.int .i64 pri)).setCell (p := ⟨W1.heap.size, 2, none⟩) (Nat.le_refl _) (.slice A2 X.length c2)
        have HF := Lib.hid (And.intro hRf (And.intro hOf hBf))
        clear hRf hOf hBf
        go_simp
        refine hK.out _ _ (HKc.out _ HF.out.2.2) (fun hHeld => ?_)
        clear hK K
        try simp only [Act.put, List.setIfInBounds_toArray, List.set_cons_zero, List.set_cons_succ]
        refine wpAnyH_done (by kernel_rfl) ?_ _
        exact ⟨W1.heap.size, A2, c2, rfl, rfl, HF.out.1, HF.out.2.1, (Nat.le_refl _), HF.out.2.2⟩
    case cont =>
      rintro e a' V ⟨B, A2, c2, rfl, rfl, hRo, hOw, hBB, hBV⟩
      have hgB : ∃ g, (0 < X.length → A2 = some ⟨g, 0, none⟩ ∧ Cells V g (shCu.vs (X.map CV.c))) ∧ W1.heap.size ≤ g ∧ g ≠ B := by
        rcases hOw.2 with ⟨hv, -⟩ | ⟨g, cap, cur, hv, hg, -, -⟩
        · injection hv with e1 e2 e3
          exact ⟨W1.heap.size + B + 1, ⟨fun h => by omega, by omega, by omega⟩⟩
        · injection hv with e1 e2 e3
          subst e1
          refine ⟨g, ⟨fun _ => ⟨rfl, cells_ownG hOw⟩, hg, fun h => ?_⟩⟩
          have := row_ne_own hRo hOw (by decide)
          exact this (by rw [← h]; rfl)
      obtain ⟨g, hGr, hgW, hgB⟩ := hgB
      have HP0 := Lib.hid (show PtR X A2 g X V from ⟨rfl, rfl, HFs.out, hGr, fun x hx => (InG.of (HX1.out.2 x hx) hgW).below hBV⟩)
      have HRo := Lib.hid hRo
      have HBV := Lib.hid hBV
      have HGn := Lib.hid (And.intro hgW (And.intro hgB hBB))
      obtain ⟨c0, c1, c2', -⟩ := HK1.out _ hBV
      clear hRo hOw hBB hBV hGr hgW hgB
      go_wp2_with fail
      clear c0 c1 c2'
      go_loopw [29] (fun iv wr => ∃ (i : Nat) (XO : List CV), i ≤ X.length ∧ iv = .int .i64 i ∧ PtR X A2 g XO wr ∧ RowAt wr B #[.int .i64 no, .int .i64 pri, .slice A2 X.length c2] 24 ∧ Below W1.heap.size W1 wr) (fun iv _ => X.length - (intOf iv).toNat)
      case atStart => exact ⟨0, X, Nat.zero_le _, rfl, HP0.out, HRo.out, HBV.out⟩
      case round =>
        obtain ⟨i, XO, hi, rfl, hP, hRo, hB⟩ := hrel
        by_cases hlt : i < X.length
        · obtain ⟨b, o, rfl, hbl, hcell⟩ := cu_at HX1.out (by omega)
          have hck := hcell i hlt
          have i0 : (0 : Int) ≤ (i : Int) := by omega
          have i1 : (i : Int) < (X.length : Int) := by omega
          have v0 : IntKind.i64.wrap ((i : Int) + 1) = (i : Int) + 1 := IntWalk.i64_in _ (by omega)
          have hin := HX1.out.2 X[i] (List.getElem_mem hlt)
          have hcu := HOk.out.ok X[i] (List.getElem_mem hlt)
          have hft := HFs.out X[i] (List.getElem_mem hlt)
          have HSk := Lib.hid (fun y h => sk_set (y := y) hlt hP.sk h)
          generalize X[i] = x at *
          obtain ⟨⟨num, lab, MA, mn, mc, PA, pn, pc, blk, mrk, fol, lnk, lps⟩, ms, ts⟩ := x
          obtain ⟨q0, q1, q2, q3, q4, q5, q6, q7, q8⟩ := hck
          dsimp only at q0 q1 q2 q3 q4 q5 q6 q7 q8 HSk
          obtain ⟨hf1, hf2, hf3, hf4⟩ := hft
          have hmn : mn = ms.length := hin.1.1
          subst hmn
          dsimp only at hf1 hf2 hf3 hf4
          have p0 := (hB.cell (p := ⟨b, o + i * 9, none⟩) hbl).trans q0
          have p1 := (hB.cell (p := ⟨b, o + i * 9 + 1, none⟩) hbl).trans q1
          have p2 := (hB.cell (p := ⟨b, o + i * 9 + 2, none⟩) hbl).trans q2
          have p3 := (hB.cell (p := ⟨b, o + i * 9 + 3, none⟩) hbl).trans q3
          have p4 := (hB.cell (p := ⟨b, o + i * 9 + 4, none⟩) hbl).trans q4
          have p5 := (hB.cell (p := ⟨b, o + i * 9 + 5, none⟩) hbl).trans q5
          have p6 := (hB.cell (p := ⟨b, o + i * 9 + 6, none⟩) hbl).trans q6
          have p7 := (hB.cell (p := ⟨b, o + i * 9 + 7, none⟩) hbl).trans q7
          have p8 := (hB.cell (p := ⟨b, o + i * 9 + 8, none⟩) hbl).trans q8
          have hbw : b < wr.heap.size := Nat.lt_of_lt_of_le hbl hB.size
          obtain ⟨W5, hW5⟩ : ∃ W5, W5 = wr.alloc (.cells #[.string num, .string lab, .slice MA ms.length mc, .slice PA pn pc, .bool blk, .bool mrk, .int .i64 fol, .string lnk, .int .i64 lps] 34) := ⟨_, rfl⟩
          have hb5 : Below wr.heap.size wr W5 := by rw [hW5]; exact (Below.refl _ _).alloc (Nat.le_refl _) _
          have HPk := Lib.hid (npack_any num lab MA ms.length mc PA pn pc blk mrk fol lnk lps ms ts W5 ((hin.below hB).below hb5) hcu hf1 hf2 hf3)
          have HMo := Lib.hid hcu.ms.few
          have HFi := Lib.hid (And.intro hf1 hf2)
          have HP5 := Lib.hid (hP.below hb5)
          have HR5 := Lib.hid (hRo.below hb5 hRo.lt)
          have HB5 := Lib.hid (hB.trans (hb5.mono hB.size))
          have HW5 := Lib.hid hW5
          clear hcell hin hcu hf1 hf2 hf3 hf4 q0 q1 q2 q3 q4 q5 q6 q7 q8 hW5 hb5 hP hRo hB
          go_wp2_with fail
          rw [← HW5.out]
          refine HPk.out.mono ?_
          rintro e w6 ⟨Mp, mpc, Pp, ppn, ppc, mp, rfl, hmi, hmq, hp0, hp4, hb6⟩
          have hml : mp.length = ms.length := by have := congrArg List.length hmq; simpa using this
          have e1 : ((ppn : Int) == 0) = false := by simpa using (show ¬ (ppn : Int) = 0 by omega)
          obtain ⟨W7, hW7⟩ : ∃ W7, W7 = w6.alloc (.cells #[.string num, .string lab, .slice Mp ms.length mpc, .slice Pp ppn ppc, .bool blk, .bool mrk, .int .i64 fol, .string lnk, .int .i64 lps] 34) := ⟨_, rfl⟩
          have hb7 : Below w6.heap.size w6 W7 := by rw [hW7]; exact (Below.refl _ _).alloc (Nat.le_refl _) _
          have HMp := Lib.hid (hmi.below hb7)
          have HMq := Lib.hid (And.intro hml hmq)
          have HP6 := Lib.hid (HP5.out.below hb6)
          have HR6 := Lib.hid (HR5.out.below hb6 HR5.out.lt)
          have HB6 := Lib.hid (HB5.out.trans (hb6.mono HB5.out.size))
          have HP7 := Lib.hid ((HP5.out.below hb6).below hb7)
          have HR7 := Lib.hid ((HR5.out.below hb6 HR5.out.lt).below hb7 (Nat.lt_of_lt_of_le HR5.out.lt hb6.size))
          have HB7 := Lib.hid ((HB5.out.trans (hb6.mono HB5.out.size)).trans (hb7.mono (Nat.le_trans HB5.out.size hb6.size)))
          have HPB := Lib.hid (show RowAt W7 w6.heap.size #[.string num, .string lab, .slice Mp ms.length mpc, .slice Pp ppn ppc, .bool blk, .bool mrk, .int .i64 fol, .string lnk, .int .i64 lps] 34 by rw [hW7]; exact RowAt.fresh w6 _ _)
          have HW7 := Lib.hid hW7
          have HGs := Lib.hid (show g < w6.heap.size by have h := (HP5.out.row (by omega)).2.1; have := hb6.size; omega)
          have HBs := Lib.hid (show B < w6.heap.size from Nat.lt_of_lt_of_le HR5.out.lt hb6.size)
          clear p0 p1 p2 p3 p4 p5 p6 p7 p8 hmi hmq hml hb6 hb7 hW7
          go_wp2_with fail
          rw [← HW7.out]
          go_loopw [10, 50] (fun vo jv w8 => ∃ k : Nat, k ≤ ms.length ∧ jv = .int .i64 k ∧ w8.ownsRow W7.heap.size 43 5 vo k (shMv.vs ((mp.map Mv.one).take k)) ∧ Below W7.heap.size W7 w8) (fun _ jv _ => ms.length - (intOf jv).toNat)
          case atStart => exact ⟨0, Nat.zero_le _, rfl, World.ownsRow_nil _ _ _ _, Below.refl _ _⟩
          case round =>
            rename World => w8
            obtain ⟨k, hk, rfl, hown, hB8⟩ := hrel
            obtain ⟨Ao, cq, rfl⟩ := own_form hown
            by_cases hlt2 : k < ms.length
            · have hk2 : k < mp.length := by have := HMq.out.1; omega
              obtain ⟨b3, o3, rfl, hbl3, hcell3⟩ := mv_at HMp.out (by omega)
              obtain ⟨q0, q1, q2, q3, q4⟩ := hcell3 k hk2
              have hst : shMv.vs ((mp.map Mv.one).take (k + 1)) = shMv.vs ((mp.map Mv.one).take k) ++ [.int .i64 mp[k].ch, .int .i64 mp[k].atr, .int .i64 mp[k].pa, .int .i64 mp[k].le, .int .i64 1] := by
                rw [shMv.vs_take _ k (by rw [List.length_map]; exact hk2), List.getElem_map]; rfl
              generalize shMv.vs ((mp.map Mv.one).take k) = LV at *
              generalize mp[k] = m at *
              obtain ⟨ch, atr, pa, le, pt⟩ := m
              dsimp only at q0 q1 q2 q3 q4 hst
              have p0 := (hB8.cell (p := ⟨b3, o3 + k * 5, none⟩) hbl3).trans q0
              have p1 := (hB8.cell (p := ⟨b3, o3 + k * 5 + 1, none⟩) hbl3).trans q1
              have p2 := (hB8.cell (p := ⟨b3, o3 + k * 5 + 2, none⟩) hbl3).trans q2
              have p3 := (hB8.cell (p := ⟨b3, o3 + k * 5 + 3, none⟩) hbl3).trans q3
              have p4 := (hB8.cell (p := ⟨b3, o3 + k * 5 + 4, none⟩) hbl3).trans q4
              have i2 : (0 : Int) ≤ (k : Int) := by omega
              have i3 : (k : Int) < (ms.length : Int) := by omega
              have v1 : IntKind.i64.wrap ((k : Int) + 1) = (k : Int) + 1 := IntWalk.i64_in _ (by have := HMo.out; omega)
              have hbw3 : b3 < w8.heap.size := Nat.lt_of_lt_of_le hbl3 hB8.size
              obtain ⟨W9, hW9⟩ : ∃ W9, W9 = w8.alloc (.cells #[.int .i64 ch, .int .i64 atr, .int .i64 pa, .int .i64 le, .int .i64 1] 43) := ⟨_, rfl⟩
              have hb9 : Below w8.heap.size w8 W9 := by rw [hW9]; exact (Below.refl _ _).alloc (Nat.le_refl _) _
              have hown9 := ownq_below hown hb9
              have hB9 := hB8.trans (hb9.mono hB8.size)
              rw [hW9] at hown9 hB9
              have hsz := hB9.size
              have hkk : k ≤ 1000 := by have := HMo.out; omega
              have HSt := Lib.hid hst
              clear hcell3 q0 q1 q2 q3 q4 hW9 hb9 hown hB8 hst
              go_wp2_with (at_builtin; refine wpList_push rfl _ _ _ rfl W7.heap.size _ _ 5 40 Tryz.underlying31 infoMv rfl (by omega) _ k LV rfl hown9 [.int .i64 ch, .int .i64 atr, .int .i64 pa, .int .i64 le, .int .i64 1] _ _ _ rfl (by first | rfl | simp) rfl (mvq_one _ _ _ _ _) (by unfold maxLen; omega) (by omega) (by first | omega | (simp; omega) | simp) ?_; intro g cap w1 hown1 hg1)
              go_roundw
              case rel => exact ⟨k + 1, hlt2, by go_num, by rw [HSt.out]; exact hown1, below_push hB9 (Nat.le_refl _) hown9 hg1⟩
              case measure => simp [intOf]; omega
            · obtain rfl : k = ms.length := by omega
              rw [List.take_of_length_le (by rw [List.length_map]; exact Nat.le_of_eq HMq.out.1)] at hown
              have hb68 : Below w6.heap.size w6 w8 := (show Below w6.heap.size w6 W7 by rw [HW7.out]; exact (Below.refl _ _).alloc (Nat.le_refl _) _).trans (hB8.mono (by rw [HW7.out]; simp))
              have hRp : RowAt w8 w6.heap.size #[.string num, .string lab, .slice Mp ms.length mpc, .slice Pp ppn ppc, .bool blk, .bool mrk, .int .i64 fol, .string lnk, .int .i64 lps] 34 := HPB.out.below hB8 HPB.out.lt
              have f2 := hRp.fr 2
              have f3 := hRp.fr 3
              have r2 := hRp.cell (j := 2) (u := .slice Mp ms.length mpc) rfl
              have r3 := hRp.cell (j := 3) (u := .slice Pp ppn ppc) rfl
              have hownd := hown
              obtain ⟨V17, hV17⟩ : ∃ V17, V17 = (((w8.setCell ⟨w6.heap.size, 2, none⟩ (.slice Ao ms.length cq)).setCell ⟨w6.heap.size, 3, none⟩ (.slice (some ⟨w8.heap.size, 0, none⟩) 1 1)).alloc (.cells #[.int .i64 up, .int .i64 dn, .int .i64 po, .int .i64 co, .int .i64 be, .int .i64 de] 26)).drew := ⟨_, rfl⟩
              have hRs := (hRp.set 2 (.slice Ao ms.length cq)).set 3 (.slice (some ⟨w8.heap.size, 0, none⟩) 1 1)
              have hOs := own_setq (own_setq hownd hRp (by decide) 2 (.slice Ao ms.length cq)) (hRp.set 2 (.slice Ao ms.length cq)) (by decide) 3 (.slice (some ⟨w8.heap.size, 0, none⟩) 1 1)
              have hbs : Below w6.heap.size w6 ((w8.setCell ⟨w6.heap.size, 2, none⟩ (.slice Ao ms.length cq)).setCell ⟨w6.heap.size, 3, none⟩ (.slice (some ⟨w8.heap.size, 0, none⟩) 1 1)) := (hb68.setCell (p := ⟨w6.heap.size, 2, none⟩) (Nat.le_refl _) (.slice Ao ms.length cq)).setCell (p := ⟨w6.heap.size, 3, none⟩) (Nat.le_refl _) (.slice (some ⟨w8.heap.size, 0, none⟩) 1 1)
              have hszs : ((w8.setCell ⟨w6.heap.size, 2, none⟩ (.slice Ao ms.length cq)).setCell ⟨w6.heap.size, 3, none⟩ (.slice (some ⟨w8.heap.size, 0, none⟩) 1 1)).heap.size = w8.heap.size := by simp
              generalize hWs : ((w8.setCell ⟨w6.heap.size, 2, none⟩ (.slice Ao ms.length cq)).setCell ⟨w6.heap.size, 3, none⟩ (.slice (some ⟨w8.heap.size, 0, none⟩) 1 1)) = Ws at hRs hOs hbs hszs hV17
              have hbz : Below Ws.heap.size Ws V17 := by rw [hV17]; exact ((Below.refl _ _).alloc (Nat.le_refl _) _).drew
              have hTc : Cells V17 w8.heap.size (shTm.vs [⟨up, dn, po, co, be, de⟩]) := by rw [hV17, ← hszs]; have hq := Cells.fresh Ws (shTm.vs [⟨up, dn, po, co, be, de⟩]) 26; exact hq.below (Below.refl _ _).drew hq.1
              have hRv : RowAt V17 w6.heap.size #[.string num, .string lab, .slice Ao ms.length cq, .slice (some ⟨w8.heap.size, 0, none⟩) 1 1, .bool blk, .bool mrk, .int .i64 fol, .string lnk, .int .i64 lps] 34 := hRs.below hbz hRs.lt
              have hOv := ownq_below hOs hbz
              have hb617 := hbs.trans (hbz.mono hbs.size)
              have hPv := HP6.out.below hb617
              have hRBv := HR6.out.below hb617 HR6.out.lt
              have hBv := HB6.out.trans (hb617.mono HB6.out.size)
              obtain ⟨rfl, hC⟩ := hPv.row (by omega)
              rw [← hWs] at hV17
              have HV17 := Lib.hid hV17
              have hXi : i < XO.length := by rw [hPv.len]; exact hlt
              have hmo : i < (XO.map CV.c).length := by rw [List.length_map]; exact hXi
              have hcv := cu_cells (XO.map CV.c) i hmo
              have hCs := vs_setC (XO.map CV.c) i hmo ⟨num, lab, Ao, ms.length, cq, some ⟨w8.heap.size, 0, none⟩, 1, 1, blk, mrk, fol, lnk, lps⟩
              obtain ⟨y, hy⟩ : ∃ y, y = (XO.map CV.c)[i] := ⟨_, rfl⟩
              rw [← hy] at hcv
              clear hy
              obtain ⟨y0, y1, y2a, y2n, y2c, y3a, y3n, y3c, y4, y5, y6, y7, y8⟩ := y
              have gr0 : V17.cell? ⟨g, i * 9, none⟩ = some (.string y0) := hC.at_ (hcv 0 (.string y0) (by decide) rfl)
              have gf0 : V17.frozen? ⟨g, i * 9, none⟩ = false := hC.fr (hcv 0 (.string y0) (by decide) rfl)
              have gr1 := hC.at_ (hcv 1 (.string y1) (by decide) rfl)
              have gf1 := hC.fr (hcv 1 (.string y1) (by decide) rfl)
              have gr2 := hC.at_ (hcv 2 (.slice y2a y2n y2c) (by decide) rfl)
              have gf2 := hC.fr (hcv 2 (.slice y2a y2n y2c) (by decide) rfl)
              have gr3 := hC.at_ (hcv 3 (.slice y3a y3n y3c) (by decide) rfl)
              have gf3 := hC.fr (hcv 3 (.slice y3a y3n y3c) (by decide) rfl)
              have gr4 := hC.at_ (hcv 4 (.bool y4) (by decide) rfl)
              have gf4 := hC.fr (hcv 4 (.bool y4) (by decide) rfl)
              have gr5 := hC.at_ (hcv 5 (.bool y5) (by decide) rfl)
              have gf5 := hC.fr (hcv 5 (.bool y5) (by decide) rfl)
              have gr6 := hC.at_ (hcv 6 (.int .i64 y6) (by decide) rfl)
              have gf6 := hC.fr (hcv 6 (.int .i64 y6) (by decide) rfl)
              have gr7 := hC.at_ (hcv 7 (.string y7) (by decide) rfl)
              have gf7 := hC.fr (hcv 7 (.string y7) (by decide) rfl)
              have gr8 := hC.at_ (hcv 8 (.int .i64 y8) (by decide) rfl)
              have gf8 := hC.fr (hcv 8 (.int .i64 y8) (by decide) rfl)
              have d2 := hRBv.cell (j := 2) (u := .slice (some ⟨g, 0, none⟩) X.length c2) rfl
              have pz0 := hRv.cell (j := 0) (u := .string num) rfl
              have pz1 := hRv.cell (j := 1) (u := .string lab) rfl
              have pz2 := hRv.cell (j := 2) (u := .slice Ao ms.length cq) rfl
              have pz3 := hRv.cell (j := 3) (u := .slice (some ⟨w8.heap.size, 0, none⟩) 1 1) rfl
              have pz4 := hRv.cell (j := 4) (u := .bool blk) rfl
              have pz5 := hRv.cell (j := 5) (u := .bool mrk) rfl
              have pz6 := hRv.cell (j := 6) (u := .int .i64 fol) rfl
              have pz7 := hRv.cell (j := 7) (u := .string lnk) rfl
              have pz8 := hRv.cell (j := 8) (u := .int .i64 lps) rfl
              have hcap := ownq_cap hOv
              have hIn17 : shMv.In V17 Ao ms.length (mp.map Mv.one) := ⟨by rw [List.length_map]; exact HMq.out.1.symm, Sl.of_own hOv⟩
              have hFm : FarA g Ao ms.length := fun h0 b' o' e' => by
                rcases hOv.2 with ⟨hv, -⟩ | ⟨g', cap', cur', hv, hg', -, -⟩
                · injection hv with e1 e2 e3
                  rw [e'] at e1; cases e1
                · injection hv with e1 e2 e3
                  rw [e'] at e1
                  injection e1 with e1
                  injection e1 with e1
                  have h1 := HGs.out
                  have h2 : w6.heap.size ≤ W7.heap.size := by rw [HW7.out]; simp
                  omega
              have hNew : InG g V17 ⟨⟨num, lab, Ao, ms.length, cq, some ⟨w8.heap.size, 0, none⟩, 1, 1, blk, mrk, fol, lnk, lps⟩, mp.map Mv.one, [⟨up, dn, po, co, be, de⟩]⟩ := ⟨hIn17, hFm, In_of_cells hTc, fun _ b' o' e' => by
                injection e' with e'
                injection e' with e1 e2
                have h1 := HGs.out
                have h2 := hb68.size
                omega⟩
              have hlen : (shCu.vs (XO.map CV.c)).length = X.length * 9 := by rw [shCu.vs_length, List.length_map, hPv.len]; rfl
              have hRow := (((((((((hC).set (i * 9) (.string num) (by (try simp only [List.length_set]); rw [hlen]; omega)).set (i * 9 + 1) (.string lab) (by (try simp only [List.length_set]); rw [hlen]; omega)).set (i * 9 + 2) (.slice Ao ms.length cq) (by (try simp only [List.length_set]); rw [hlen]; omega)).set (i * 9 + 3) (.slice (some ⟨w8.heap.size, 0, none⟩) 1 1) (by (try simp only [List.length_set]); rw [hlen]; omega)).set (i * 9 + 4) (.bool blk) (by (try simp only [List.length_set]); rw [hlen]; omega)).set (i * 9 + 5) (.bool mrk) (by (try simp only [List.length_set]); rw [hlen]; omega)).set (i * 9 + 6) (.int .i64 fol) (by (try simp only [List.length_set]); rw [hlen]; omega)).set (i * 9 + 7) (.string lnk) (by (try simp only [List.length_set]); rw [hlen]; omega)).set (i * 9 + 8) (.int .i64 lps) (by (try simp only [List.length_set]); rw [hlen]; omega)
              rw [hCs] at hRow
              have HEnd := Lib.hid (show PtR X (some ⟨g, 0, none⟩) g (XO.set i ⟨⟨num, lab, Ao, ms.length, cq, some ⟨w8.heap.size, 0, none⟩, 1, 1, blk, mrk, fol, lnk, lps⟩, mp.map Mv.one, [⟨up, dn, po, co, be, de⟩]⟩) ((((((((((V17).setCell ⟨g, i * 9, none⟩ (.string num)).setCell ⟨g, i * 9 + 1, none⟩ (.string lab)).setCell ⟨g, i * 9 + 2, none⟩ (.slice Ao ms.length cq)).setCell ⟨g, i * 9 + 3, none⟩ (.slice (some ⟨w8.heap.size, 0, none⟩) 1 1)).setCell ⟨g, i * 9 + 4, none⟩ (.bool blk)).setCell ⟨g, i * 9 + 5, none⟩ (.bool mrk)).setCell ⟨g, i * 9 + 6, none⟩ (.int .i64 fol)).setCell ⟨g, i * 9 + 7, none⟩ (.string lnk)).setCell ⟨g, i * 9 + 8, none⟩ (.int .i64 lps)) ∧ RowAt ((((((((((V17).setCell ⟨g, i * 9, none⟩ (.string num)).setCell ⟨g, i * 9 + 1, none⟩ (.string lab)).setCell ⟨g, i * 9 + 2, none⟩ (.slice Ao ms.length cq)).setCell ⟨g, i * 9 + 3, none⟩ (.slice (some ⟨w8.heap.size, 0, none⟩) 1 1)).setCell ⟨g, i * 9 + 4, none⟩ (.bool blk)).setCell ⟨g, i * 9 + 5, none⟩ (.bool mrk)).setCell ⟨g, i * 9 + 6, none⟩ (.int .i64 fol)).setCell ⟨g, i * 9 + 7, none⟩ (.string lnk)).setCell ⟨g, i * 9 + 8, none⟩ (.int .i64 lps)) B #[.int .i64 no, .int .i64 pri, .slice (some ⟨g, 0, none⟩) X.length c2] 24 ∧ Below W1.heap.size W1 ((((((((((V17).setCell ⟨g, i * 9, none⟩ (.string num)).setCell ⟨g, i * 9 + 1, none⟩ (.string lab)).setCell ⟨g, i * 9 + 2, none⟩ (.slice Ao ms.length cq)).setCell ⟨g, i * 9 + 3, none⟩ (.slice (some ⟨w8.heap.size, 0, none⟩) 1 1)).setCell ⟨g, i * 9 + 4, none⟩ (.bool blk)).setCell ⟨g, i * 9 + 5, none⟩ (.bool mrk)).setCell ⟨g, i * 9 + 6, none⟩ (.int .i64 fol)).setCell ⟨g, i * 9 + 7, none⟩ (.string lnk)).setCell ⟨g, i * 9 + 8, none⟩ (.int .i64 lps)) from by
                refine ⟨⟨by rw [List.length_set]; exact hPv.len, HSk.out _ (by show (blk, (mp.map Mv.one).map Mv.q) = (blk, ms.map Mv.q); rw [one_q, HMq.out.2]), fun x hx => ?_, fun _ => ⟨rfl, ?_⟩, fun x hx => ?_⟩, ?_, ?_⟩
                · rcases List.mem_or_eq_of_mem_set hx with h | rfl
                  · exact hPv.fit x h
                  · exact ⟨HFi.out.1, HFi.out.2, hcap.1, by show ms.length ≤ 9223372036854775807; have := HMo.out; omega⟩
                · rw [List.map_set]
                  exact hRow
                · rcases List.mem_or_eq_of_mem_set hx with h | rfl
                  · have h := hPv.ing x h
                    exact (((((((((h).set (i * 9) (.string num)).set (i * 9 + 1) (.string lab)).set (i * 9 + 2) (.slice Ao ms.length cq)).set (i * 9 + 3) (.slice (some ⟨w8.heap.size, 0, none⟩) 1 1)).set (i * 9 + 4) (.bool blk)).set (i * 9 + 5) (.bool mrk)).set (i * 9 + 6) (.int .i64 fol)).set (i * 9 + 7) (.string lnk)).set (i * 9 + 8) (.int .i64 lps)
                  · exact (((((((((hNew).set (i * 9) (.string num)).set (i * 9 + 1) (.string lab)).set (i * 9 + 2) (.slice Ao ms.length cq)).set (i * 9 + 3) (.slice (some ⟨w8.heap.size, 0, none⟩) 1 1)).set (i * 9 + 4) (.bool blk)).set (i * 9 + 5) (.bool mrk)).set (i * 9 + 6) (.int .i64 fol)).set (i * 9 + 7) (.string lnk)).set (i * 9 + 8) (.int .i64 lps)
                · exact (((((((((hRBv).far (i * 9) (.string num) HGn.out.2.1).far (i * 9 + 1) (.string lab) HGn.out.2.1).far (i * 9 + 2) (.slice Ao ms.length cq) HGn.out.2.1).far (i * 9 + 3) (.slice (some ⟨w8.heap.size, 0, none⟩) 1 1) HGn.out.2.1).far (i * 9 + 4) (.bool blk) HGn.out.2.1).far (i * 9 + 5) (.bool mrk) HGn.out.2.1).far (i * 9 + 6) (.int .i64 fol) HGn.out.2.1).far (i * 9 + 7) (.string lnk) HGn.out.2.1).far (i * 9 + 8) (.int .i64 lps) HGn.out.2.1
                · exact (((((((((hBv).setCell (p := ⟨g, i * 9, none⟩) HGn.out.1 (.string num)).setCell (p := ⟨g, i * 9 + 1, none⟩) HGn.out.1 (.string lab)).setCell (p := ⟨g, i * 9 + 2, none⟩) HGn.out.1 (.slice Ao ms.length cq)).setCell (p := ⟨g, i * 9 + 3, none⟩) HGn.out.1 (.slice (some ⟨w8.heap.size, 0, none⟩) 1 1)).setCell (p := ⟨g, i * 9 + 4, none⟩) HGn.out.1 (.bool blk)).setCell (p := ⟨g, i * 9 + 5, none⟩) HGn.out.1 (.bool mrk)).setCell (p := ⟨g, i * 9 + 6, none⟩) HGn.out.1 (.int .i64 fol)).setCell (p := ⟨g, i * 9 + 7, none⟩) HGn.out.1 (.string lnk)).setCell (p := ⟨g, i * 9 + 8, none⟩) HGn.out.1 (.int .i64 lps))
              have hBd : Below W1.heap.size W1 w8.drew := (HB6.out.trans (hb68.mono HB6.out.size)).drew
              have hPs := HB6.out.size
              have hBa : Below W1.heap.size W1 (w8.drew.alloc (.cells #[.int .i64 up, .int .i64 dn, .int .i64 po, .int .i64 co, .int .i64 be, .int .i64 de] 26)) := hBd.alloc hBd.size _
              have hBe := hBd.setCell (p := ⟨w6.heap.size, 2, none⟩) hPs (.slice Ao ms.length cq)
              have hBb : Below W1.heap.size W1 ((w8.drew.setCell ⟨w6.heap.size, 2, none⟩ (.slice Ao ms.length cq)).alloc (.cells #[.int .i64 up, .int .i64 dn, .int .i64 po, .int .i64 co, .int .i64 be, .int .i64 de] 26)) := hBe.alloc hBe.size _
              have hBc : Below W1.heap.size W1 (((w8.setCell ⟨w6.heap.size, 2, none⟩ (.slice Ao ms.length cq)).setCell ⟨w6.heap.size, 3, none⟩ (.slice (some ⟨w8.heap.size, 0, none⟩) 1 1)).alloc (.cells #[.int .i64 up, .int .i64 dn, .int .i64 po, .int .i64 co, .int .i64 be, .int .i64 de] 26)).drew := by rw [← HV17.out]; exact hBv
              have hbw6 : w6.heap.size < w8.heap.size := Nat.lt_of_lt_of_le HPB.out.lt hB8.size
              clear hown hownd hRp hV17 hWs hRs hOs hbs hszs hbz hTc hRv hOv hb617 hPv hRBv hBv hC hcv hCs hcap hIn17 hFm hNew hb68 hB8 hXi hmo
              go_wp2_with fail
              refine wp_region_held_drew (S := fun w' => w'.cell? ⟨w.heap.size + 1, 0, none⟩ = some (.int .i64 up) ∧ w'.cell? ⟨w.heap.size + 1, 1, none⟩ = some (.int .i64 dn) ∧ w'.cell? ⟨w.heap.size + 1, 2, none⟩ = some (.int .i64 po) ∧ w'.cell? ⟨w.heap.size + 1, 3, none⟩ = some (.int .i64 co) ∧ w'.cell? ⟨w.heap.size + 1, 4, none⟩ = some (.int .i64 be) ∧ w'.cell? ⟨w.heap.size + 1, 5, none⟩ = some (.int .i64 de)) (by kernel_rfl) (HKt.out _ hBd) (fun hHeld => ?_)
              refine wpAnyH_take (i := 0) (oi := ?_) (v := ?_) ?_ (by kernel_rfl) (by kernel_rfl) (by kernel_rfl) ?_ (Or.inl ⟨?_, ?_⟩) (by assumption) ?_
              rotate_left 2
              · (simp only [List.getElem?_toArray, List.getElem?_cons_zero]; rfl)
              · exact fun _ _ _ h => h
              · rfl
              · (intro w hSw; (try dsimp only at hSw); go_simp; try with_reducible rfl)
              simp only [Act.put, List.setIfInBounds_toArray, List.set_cons_zero, List.set_cons_succ]
              refine wpAnyH_take (i := 1) (oi := ?_) (v := ?_) ?_ (by kernel_rfl) (by kernel_rfl) (by kernel_rfl) ?_ (Or.inl ⟨?_, ?_⟩) (by assumption) ?_
              rotate_left 2
              · (simp only [List.getElem?_toArray, List.getElem?_cons_succ, List.getElem?_cons_zero]; rfl)
              · exact fun _ _ _ h => h
              · rfl
              · (intro w hSw; (try dsimp only at hSw); go_simp; try with_reducible rfl)
              simp only [Act.put, List.setIfInBounds_toArray, List.set_cons_zero, List.set_cons_succ]
              refine wpAnyH_take (i := 3) (oi := ?_) (v := ?_) ?_ (by kernel_rfl) (by kernel_rfl) (by kernel_rfl) ?_ (Or.inl ⟨?_, ?_⟩) (by assumption) ?_
              rotate_left 2
              · (simp only [List.getElem?_toArray, List.getElem?_cons_succ, List.getElem?_cons_zero]; rfl)
              · exact fun _ _ _ h => h
              · rfl
              · (intro w hSw; (try dsimp only at hSw); go_simp; try with_reducible rfl)
              simp only [Act.put, List.setIfInBounds_toArray, List.set_cons_zero, List.set_cons_succ]
              refine wpAnyH_ready (rs := [2, 4]) (by kernel_rfl) (by simp) ?_
              refine AllReadyH.cons rfl (fun K hK => ?_) (AllReadyH.cons rfl (fun K hK => ?_) (AllReadyH.nil))
              · go_simp
                refine hK.out _ _ (HKt.out _ hBa) (fun hHeld => ?_)
                clear hK K
                try simp only [Act.put, List.setIfInBounds_toArray, List.set_cons_zero, List.set_cons_succ]
                refine wpAnyH_ready (rs := [4]) (by kernel_rfl) (by simp) ?_
                refine AllReadyH.cons rfl (fun K hK => ?_) (AllReadyH.nil)
                go_simp
                refine hK.out _ _ (HKt.out _ hBb) (fun hHeld => ?_)
                clear hK K
                try simp only [Act.put, List.setIfInBounds_toArray, List.set_cons_zero, List.set_cons_succ]
                refine wpAnyH_take (i := 5) (oi := ?_) (v := ?_) ?_ (by kernel_rfl) (by kernel_rfl) (by kernel_rfl) ?_ (Or.inl ⟨?_, ?_⟩) (by assumption) ?_
                rotate_left 2
                · (simp only [List.getElem?_toArray, List.getElem?_cons_succ, List.getElem?_cons_zero]; rfl)
                · exact fun _ _ _ h => h
                · rfl
                · (intro w hSw; (try dsimp only at hSw); go_simp; try with_reducible rfl)
                simp only [Act.put, List.setIfInBounds_toArray, List.set_cons_zero, List.set_cons_succ]
                refine wpAnyH_ready (rs := [6]) (by kernel_rfl) (by simp) ?_
                refine AllReadyH.cons rfl (fun K hK => ?_) (AllReadyH.nil)
                go_simp
                refine hK.out _ _ (HKt.out _ hBc) (fun hHeld => ?_)
                clear hK K
                try simp only [Act.put, List.setIfInBounds_toArray, List.set_cons_zero, List.set_cons_succ]
                refine wpAnyH_done (by kernel_rfl) ?_ _
                rw [← HV17.out]
                go_wp2_with fail
                go_roundw
                case rel => exact ⟨i + 1, XO.set i ⟨⟨num, lab, Ao, ms.length, cq, some ⟨w8.heap.size, 0, none⟩, 1, 1, blk, mrk, fol, lnk, lps⟩, mp.map Mv.one, [⟨up, dn, po, co, be, de⟩]⟩, hlt, by go_num, HEnd.out.1, HEnd.out.2.1, HEnd.out.2.2⟩
                case measure => simp [intOf]; omega
              · go_simp
                refine hK.out _ _ (HKt.out _ hBe) (fun hHeld => ?_)
                clear hK K
                try simp only [Act.put, List.setIfInBounds_toArray, List.set_cons_zero, List.set_cons_succ]
                refine wpAnyH_ready (rs := [2]) (by kernel_rfl) (by simp) ?_
                refine AllReadyH.cons rfl (fun K hK => ?_) (AllReadyH.nil)
                go_simp
                refine hK.out _ _ (HKt.out _ hBb) (fun hHeld => ?_)
                clear hK K
                try simp only [Act.put, List.setIfInBounds_toArray, List.set_cons_zero, List.set_cons_succ]
                refine wpAnyH_take (i := 5) (oi := ?_) (v := ?_) ?_ (by kernel_rfl) (by kernel_rfl) (by kernel_rfl) ?_ (Or.inl ⟨?_, ?_⟩) (by assumption) ?_
                rotate_left 2
                · (simp only [List.getElem?_toArray, List.getElem?_cons_succ, List.getElem?_cons_zero]; rfl)
                · exact fun _ _ _ h => h
                · rfl
                · (intro w hSw; (try dsimp only at hSw); go_simp; try with_reducible rfl)
                simp only [Act.put, List.setIfInBounds_toArray, List.set_cons_zero, List.set_cons_succ]
                refine wpAnyH_ready (rs := [6]) (by kernel_rfl) (by simp) ?_
                refine AllReadyH.cons rfl (fun K hK => ?_) (AllReadyH.nil)
                go_simp
                refine hK.out _ _ (HKt.out _ hBc) (fun hHeld => ?_)
                clear hK K
                try simp only [Act.put, List.setIfInBounds_toArray, List.set_cons_zero, List.set_cons_succ]
                refine wpAnyH_done (by kernel_rfl) ?_ _
                rw [← HV17.out]
                go_wp2_with fail
                go_roundw
                case rel => exact ⟨i + 1, XO.set i ⟨⟨num, lab, Ao, ms.length, cq, some ⟨w8.heap.size, 0, none⟩, 1, 1, blk, mrk, fol, lnk, lps⟩, mp.map Mv.one, [⟨up, dn, po, co, be, de⟩]⟩, hlt, by go_num, HEnd.out.1, HEnd.out.2.1, HEnd.out.2.2⟩
                case measure => simp [intOf]; omega
        · obtain rfl : i = X.length := by omega
          have hInC : InC wr A2 X.length XO := by
            refine ⟨?_, fun x hx => ⟨(hP.ing x hx).m, (hP.ing x hx).t⟩⟩
            rcases Nat.eq_zero_or_pos X.length with h0 | h0
            · have hnil : XO = [] := List.eq_nil_of_length_eq_zero (by rw [hP.len]; exact h0)
              rw [hnil, h0]
              exact Sh.In.nil _ _
            · obtain ⟨h1, h2⟩ := hP.row h0
              rw [h1]
              have h3 := In_of_cells h2
              rw [List.length_map, hP.len] at h3
              exact h3
          have HRl := Lib.hid (rlist_any no pri A2 X.length c2 XO wr hInC (fun x hx => ⟨(hP.fit x hx).1, (hP.fit x hx).2.1⟩))
          have HI := Lib.hid hInC
          have HPp := Lib.hid hP
          have HBr := Lib.hid hB
          have HRb := Lib.hid hRo
          have d0 := hRo.cell (j := 0) (u := .int .i64 no) rfl
          have d1 := hRo.cell (j := 1) (u := .int .i64 pri) rfl
          have d2 := hRo.cell (j := 2) (u := .slice A2 X.length c2) rfl
          clear hInC hP hRo hB
          go_wp2_with fail
          refine HRl.out.mono ?_
          rintro e w10 ⟨⟨E, rfl, hE⟩, hb10⟩
          have HB10 := Lib.hid hb10
          have HEi := Lib.hid hE
          clear d0 d1 d2 hb10 hE
          by_cases hE0 : E = 0
          rotate_left
          · have e1 : (E != 0) = true := by simpa using hE0
            clear hE0
            go_wp2_with fail
            refine (caselooks_any w10).mono ?_
            rintro e w11 ⟨rfl, hb11⟩
            go_wp2_with fail
            go_ret
            exact ⟨rfl, HBw.out.trans ((HBr.out.trans ((HB10.out.trans (hb11.mono HB10.out.size)).mono HBr.out.size)).mono HBw.out.size)⟩
          · subst hE0
            have hok2 := HEi.out rfl
            have HB0x := Lib.hid (HBr.out.trans (HB10.out.mono HBr.out.size))
            obtain ⟨c0, c1, c3, -⟩ := HK1.out _ HB0x.out
            have HS1 := Lib.hid (ntSheet_any no pri A X.length c X w10 (HX1.out.below HB0x.out) HFs.out HOk.out)
            have HS2 := Lib.hid (fun V (h : Below w10.heap.size w10 V) => ntSheet_any no pri A2 X.length c2 XO V ((HI.out.below HB10.out).below h) HPp.out.fit hok2)
            clear hok2
            go_wp2_with fail
            refine HS1.out.mono ?_
            rintro e w11 ⟨Aa, ca, HHa, rfl, hia, hla, hb11⟩
            have HR11 := Lib.hid ((HRb.out.below HB10.out HRb.out.lt).below hb11 (Nat.lt_of_lt_of_le HRb.out.lt HB10.out.size))
            have d0 := HR11.out.cell (j := 0) (u := .int .i64 no) rfl
            have d1 := HR11.out.cell (j := 1) (u := .int .i64 pri) rfl
            have d2 := HR11.out.cell (j := 2) (u := .slice A2 X.length c2) rfl
            have HB11 := Lib.hid hb11
            have HIa := Lib.hid hia
            have HLa := Lib.hid hla
            have hS2 := HS2.out w11 hb11
            rw [HPp.out.len, HPp.out.sk] at hS2
            have HS2b := Lib.hid hS2
            clear hia hla hb11 c0 c1 c3 hS2
            go_wp2_with fail
            refine HS2b.out.mono ?_
            rintro e w12 ⟨Ab, cb, HHb, rfl, hib, hlb, hb12⟩
            have HSs := Lib.hid (rsames_any Aa X.length ca Ab cb HHa HHb w12 (HIa.out.below hb12) hib (by omega) (fun i h h2 => by
              have h3 := HLa.out.below hb12 i h
              have h4 := hlb i h2
              have h5 := h3.2
              have h6 := h4.2
              rw [← h3.1] at h5
              rw [← h4.1] at h6
              refine ⟨lkS (X.map CV.sk) (i + 1), Sh.In.of_own (S := shEn) h5 h3.1, Sh.In.of_own (S := shEn) h6 h4.1, ?_⟩
              rw [h3.1]
              unfold lkS
              rw [List.length_map]
              have h7 := fp_len (X.map CV.sk)
              have h8 := psS_len (ok_ms HOk.out)
              omega))
            have HB12 := Lib.hid hb12
            clear hib hlb hb12 d0 d1 d2
            go_wp2_with fail
            refine HSs.out.mono ?_
            rintro e w13 ⟨rfl, hb13⟩
            have HB13 := Lib.hid hb13
            clear hb13
            go_wp2_with fail
            refine (caselooks_any w13).mono ?_
            rintro e w14 ⟨rfl, hb14⟩
            have hb := HB0x.out.trans ((HB11.out.trans ((HB12.out.trans ((HB13.out.trans (hb14.mono HB13.out.size)).mono HB12.out.size)).mono HB11.out.size)).mono HB0x.out.size)
            go_wp2_with fail
            go_ret
            exact ⟨rfl, HBw.out.trans (hb.mono HBw.out.size)⟩
end Go.Proofs.YtbhkfemebionnaaGreatDoor
