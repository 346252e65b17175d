/- Lemmas and contracts of functions, joined for the claim: LkSE, LkHm, LkLkP, LkBs. -/
import Derived.Test.YtbhkfemebionnaaGreatDoorMPmB
namespace Go.Proofs.YtbhkfemebionnaaGreatDoor
open Go.RowKit

structure En where
  ch : Int
  atr : Int
  pa : Int
  le : Int
def shEn : Sh En := ⟨4, fun m => [.int .i64 m.ch, .int .i64 m.atr, .int .i64 m.pa, .int .i64 m.le], fun _ => rfl, fun a => by simp; exact ⟨rfl, rfl, rfl, rfl⟩⟩
theorem en_at {w : World} {A : Option Addr} {n : Nat} {l : List En} (h : shEn.In w A n l) (h0 : 0 < l.length) :
    ∃ b o, A = some ⟨b, o, none⟩ ∧ b < w.heap.size ∧ ∀ k (hk : k < l.length), w.cell? ⟨b, o + k * 4, none⟩ = some (.int .i64 l[k].ch) ∧ w.cell? ⟨b, o + k * 4 + 1, none⟩ = some (.int .i64 l[k].atr) ∧ w.cell? ⟨b, o + k * 4 + 2, none⟩ = some (.int .i64 l[k].pa) ∧ w.cell? ⟨b, o + k * 4 + 3, none⟩ = some (.int .i64 l[k].le) := by
  obtain ⟨b, o, e, hb, hc⟩ := h.at_ h0
  exact ⟨b, o, e, hb, fun k hk => ⟨hc k hk 0 _ (by decide) rfl, hc k hk 1 _ (by decide) rfl, hc k hk 2 _ (by decide) rfl, hc k hk 3 _ (by decide) rfl⟩⟩
set_option maxRecDepth 100000 in
set_option maxHeartbeats 16000000 in
theorem rsamee_any (A : Option Addr) (n c : Nat) (A2 : Option Addr) (n2 c2 : Nat) (l : List En) (w : World) (hl : shEn.In w A n l) (hl2 : shEn.In w A2 n2 l) (hn : n ≤ 9223372036854775807) :
    Calls Tryz.prog 17 #[.slice A n c, .slice A2 n2 c2] w fun e w' => e = .returned (.bool true) ∧ Below w.heap.size w w' := by
  have h1 : n = l.length := hl.1
  have h2 : n2 = l.length := hl2.1
  subst h1
  subst h2
  have HL := Lib.hid hl
  have HL2 := Lib.hid hl2
  clear hl hl2
  go_enter Tryz.func17, Tryz.ntmps17
  go_wp2_with fail
  go_loopw [5] (fun iv wr => ∃ k : Nat, k ≤ l.length ∧ iv = .int .i64 k ∧ Below w.heap.size w wr) (fun iv _ => l.length - (intOf iv).toNat)
  case atStart => exact ⟨0, Nat.zero_le _, rfl, Below.refl _ _⟩
  case round =>
    obtain ⟨k, hk, rfl, hB⟩ := hrel
    by_cases hlt : k < l.length
    · have i0 : (0 : Int) ≤ (k : Int) := by omega
      have i1 : (k : Int) < (l.length : Int) := by omega
      have w0 : IntKind.i64.wrap ((k : Int) + 1) = (k : Int) + 1 := IntWalk.i64_in _ (by omega)
      obtain ⟨b, o, rfl, hbl, hcell⟩ := en_at HL.out (by omega)
      obtain ⟨b2, o2, rfl, hbl2, hcell2⟩ := en_at HL2.out (by omega)
      obtain ⟨p0, p1, p2, p3⟩ := hcell k hlt
      obtain ⟨r0, r1, r2, r3⟩ := hcell2 k hlt
      generalize l[k] = m at *
      obtain ⟨ch, atr, pa, le⟩ := m
      go_wp2_with fail
      replace hB := hB.drew
      have p0 := (hB.cell (p := ⟨b, o + k * 4, none⟩) hbl).trans p0
      have p1 := (hB.cell (p := ⟨b, o + k * 4 + 1, none⟩) hbl).trans p1
      have p2 := (hB.cell (p := ⟨b, o + k * 4 + 2, none⟩) hbl).trans p2
      have p3 := (hB.cell (p := ⟨b, o + k * 4 + 3, none⟩) hbl).trans p3
      have r0 := (hB.cell (p := ⟨b2, o2 + k * 4, none⟩) hbl2).trans r0
      have r1 := (hB.cell (p := ⟨b2, o2 + k * 4 + 1, none⟩) hbl2).trans r1
      have r2 := (hB.cell (p := ⟨b2, o2 + k * 4 + 2, none⟩) hbl2).trans r2
      have r3 := (hB.cell (p := ⟨b2, o2 + k * 4 + 3, none⟩) hbl2).trans r3
      refine wp_region_held_drew (S := fun w' => w'.cell? ⟨b, o + k * 4, none⟩ = some (.int .i64 ch) ∧ w'.cell? ⟨b, o + k * 4 + 1, none⟩ = some (.int .i64 atr) ∧ w'.cell? ⟨b, o + k * 4 + 2, none⟩ = some (.int .i64 pa) ∧ w'.cell? ⟨b, o + k * 4 + 3, none⟩ = some (.int .i64 le) ∧ w'.cell? ⟨b2, o2 + k * 4, none⟩ = some (.int .i64 ch) ∧ w'.cell? ⟨b2, o2 + k * 4 + 1, none⟩ = some (.int .i64 atr) ∧ w'.cell? ⟨b2, o2 + k * 4 + 2, none⟩ = some (.int .i64 pa) ∧ w'.cell? ⟨b2, o2 + k * 4 + 3, none⟩ = some (.int .i64 le)) (by kernel_rfl) (by first | exact ⟨p0, p1, p2, p3, r0, r1, r2, r3⟩) (fun hHeld => ?_)
      refine wpAnyH_take (i := 0) (oi := ?_) (v := ?_) ?_ (by kernel_rfl) (by kernel_rfl) (by kernel_rfl) ?_ (Or.inl ⟨?_, ?_⟩) (by assumption) ?_
      rotate_left 2
      · (simp only [List.getElem?_toArray, List.getElem?_cons_zero]; rfl)
      · exact fun _ _ _ h => h
      · rfl
      · (intro w hSw; (try dsimp only at hSw); go_simp; try with_reducible rfl)
      simp only [Act.put, List.setIfInBounds_toArray, List.set_cons_zero, List.set_cons_succ]
      refine wpAnyH_take (i := 1) (oi := ?_) (v := ?_) ?_ (by kernel_rfl) (by kernel_rfl) (by kernel_rfl) ?_ (Or.inl ⟨?_, ?_⟩) (by assumption) ?_
      rotate_left 2
      · (simp only [List.getElem?_toArray, List.getElem?_cons_succ, List.getElem?_cons_zero]; rfl)
      · exact fun _ _ _ h => h
      · rfl
      · (intro w hSw; (try dsimp only at hSw); go_simp; try with_reducible rfl)
      simp only [Act.put, List.setIfInBounds_toArray, List.set_cons_zero, List.set_cons_succ]
      refine wpAnyH_take (i := 2) (oi := ?_) (v := ?_) ?_ (by kernel_rfl) (by kernel_rfl) (by kernel_rfl) ?_ (Or.inl ⟨?_, ?_⟩) (by assumption) ?_
      rotate_left 2
      · (simp only [List.getElem?_toArray, List.getElem?_cons_succ, List.getElem?_cons_zero]; rfl)
      · exact fun _ _ _ h => h
      · rfl
      · (intro w hSw; (try dsimp only at hSw); go_simp; try with_reducible rfl)
      simp only [Act.put, List.setIfInBounds_toArray, List.set_cons_zero, List.set_cons_succ]
      refine wpAnyH_take (i := 3) (oi := ?_) (v := ?_) ?_ (by kernel_rfl) (by kernel_rfl) (by kernel_rfl) ?_ (Or.inl ⟨?_, ?_⟩) (by assumption) ?_
      rotate_left 2
      · (simp only [List.getElem?_toArray, List.getElem?_cons_succ, List.getElem?_cons_zero]; rfl)
      · exact fun _ _ _ h => h
      · rfl
      · (intro w hSw; (try dsimp only at hSw); go_simp; try with_reducible rfl)
      simp only [Act.put, List.setIfInBounds_toArray, List.set_cons_zero, List.set_cons_succ]
      refine wpAnyH_take (i := 4) (oi := ?_) (v := ?_) ?_ (by kernel_rfl) (by kernel_rfl) (by kernel_rfl) ?_ (Or.inl ⟨?_, ?_⟩) (by assumption) ?_
      rotate_left 2
      · (simp only [List.getElem?_toArray, List.getElem?_cons_succ, List.getElem?_cons_zero]; rfl)
      · exact fun _ _ _ h => h
      · rfl
      · (intro w hSw; (try dsimp only at hSw); go_simp; try with_reducible rfl)
      simp only [Act.put, List.setIfInBounds_toArray, List.set_cons_zero, List.set_cons_succ]
      refine wpAnyH_take (i := 5) (oi := ?_) (v := ?_) ?_ (by kernel_rfl) (by kernel_rfl) (by kernel_rfl) ?_ (Or.inl ⟨?_, ?_⟩) (by assumption) ?_
      rotate_left 2
      · (simp only [List.getElem?_toArray, List.getElem?_cons_succ, List.getElem?_cons_zero]; rfl)
      · exact fun _ _ _ h => h
      · rfl
      · (intro w hSw; (try dsimp only at hSw); go_simp; try with_reducible rfl)
      simp only [Act.put, List.setIfInBounds_toArray, List.set_cons_zero, List.set_cons_succ]
      refine wpAnyH_take (i := 6) (oi := ?_) (v := ?_) ?_ (by kernel_rfl) (by kernel_rfl) (by kernel_rfl) ?_ (Or.inl ⟨?_, ?_⟩) (by assumption) ?_
      rotate_left 2
      · (simp only [List.getElem?_toArray, List.getElem?_cons_succ, List.getElem?_cons_zero]; rfl)
      · exact fun _ _ _ h => h
      · rfl
      · (intro w hSw; (try dsimp only at hSw); go_simp; try with_reducible rfl)
      simp only [Act.put, List.setIfInBounds_toArray, List.set_cons_zero, List.set_cons_succ]
      refine wpAnyH_take (i := 7) (oi := ?_) (v := ?_) ?_ (by kernel_rfl) (by kernel_rfl) (by kernel_rfl) ?_ (Or.inl ⟨?_, ?_⟩) (by assumption) ?_
      rotate_left 2
      · (simp only [List.getElem?_toArray, List.getElem?_cons_succ, List.getElem?_cons_zero]; rfl)
      · exact fun _ _ _ h => h
      · rfl
      · (intro w hSw; (try dsimp only at hSw); go_simp; try with_reducible rfl)
      simp only [Act.put, List.setIfInBounds_toArray, List.set_cons_zero, List.set_cons_succ]
      refine wpAnyH_take (i := 8) (oi := ?_) (v := ?_) ?_ (by kernel_rfl) (by kernel_rfl) (by kernel_rfl) ?_ (Or.inl ⟨?_, ?_⟩) (by assumption) ?_
      rotate_left 2
      · (simp only [List.getElem?_toArray, List.getElem?_cons_succ, List.getElem?_cons_zero]; rfl)
      · exact fun _ _ _ h => h
      · rfl
      · (intro w hSw; (try dsimp only at hSw); go_simp; try with_reducible rfl)
      simp only [Act.put, List.setIfInBounds_toArray, List.set_cons_zero, List.set_cons_succ]
      refine wpAnyH_done (by kernel_rfl) ?_ _
      go_wp2_with fail
      go_roundw
      case rel => exact ⟨k + 1, by omega, by go_num, hB⟩
      case measure => simp [intOf]; omega
    · obtain rfl : k = l.length := by omega
      go_wp2_with fail
      go_ret
      exact ⟨rfl, hB⟩
end Go.Proofs.YtbhkfemebionnaaGreatDoor

namespace Go.Proofs.YtbhkfemebionnaaGreatDoor
open Go.RowKit

set_option maxHeartbeats 2000000 in
theorem rhome_any (w : World) : Calls Tryz.prog 22 #[] w fun e w' => e = .returned (.agg #[.int .i64 (-1), .int .i64 0]) ∧ Below w.heap.size w w' := by
  go_enter Tryz.func22, Tryz.ntmps22
  go_wp2_with fail
  (try simp only [Exit.inBlock, Exit.then])
  refine bodyPost_ret (v := .agg #[.int .i64 (-1), .int .i64 0]) ?_ rfl ⟨rfl, ?_⟩
  · rw [res_cell1 rfl]
    go_simp
  · first | exact (Below.refl _ _).alloc (Nat.le_refl _) _ | exact ((Below.refl _ _).alloc (Nat.le_refl _) _).setCell (Nat.le_refl _) _
set_option maxHeartbeats 2000000 in
theorem rat_any (v : Int) (w : World) : Calls Tryz.prog 25 #[.int .i64 v] w fun e w' => e = .returned (.agg #[.int .i64 0, .int .i64 v]) ∧ Below w.heap.size w w' := by
  go_enter Tryz.func25, Tryz.ntmps25
  go_wp2_with fail
  (try simp only [Exit.inBlock, Exit.then])
  refine bodyPost_ret (v := .agg #[.int .i64 0, .int .i64 v]) ?_ rfl ⟨rfl, ?_⟩
  · rw [res_cell1 rfl]
    go_simp
  · first | exact (Below.refl _ _).alloc (Nat.le_refl _) _ | exact ((Below.refl _ _).alloc (Nat.le_refl _) _).setCell (Nat.le_refl _) _
set_option maxHeartbeats 2000000 in
theorem nhome_any (w : World) : Calls Tryz.prog 88 #[] w fun e w' => e = .returned (.agg #[.int .i64 (-1), .int .i64 0]) ∧ Below w.heap.size w w' := by
  go_enter Tryz.func88, Tryz.ntmps88
  go_wp2_with fail
  (try simp only [Exit.inBlock, Exit.then])
  refine bodyPost_ret (v := .agg #[.int .i64 (-1), .int .i64 0]) ?_ rfl ⟨rfl, ?_⟩
  · rw [res_cell1 rfl]
    go_simp
  · first | exact (Below.refl _ _).alloc (Nat.le_refl _) _ | exact ((Below.refl _ _).alloc (Nat.le_refl _) _).setCell (Nat.le_refl _) _
end Go.Proofs.YtbhkfemebionnaaGreatDoor

namespace Go.Proofs.YtbhkfemebionnaaGreatDoor
open Go.RowKit

abbrev Mq := (Int × Int) × (Int × Int)
abbrev Sk := Bool × List Mq
def Mv.q (m : Mv) : Mq := ((m.ch, m.atr), (m.pa, m.le))
def CV.sk (x : CV) : Sk := (x.c.blk, x.ms.map Mv.q)
def ltQ (a b : Int × Int) : Bool := decide (ltP a.1 a.2 b.1 b.2)
theorem ltQ_t {a b : Int × Int} : ltQ a b = true ↔ a.1 < b.1 ∨ (a.1 = b.1 ∧ a.2 < b.2) := decide_eq_true_iff
theorem ltQ_f {a b : Int × Int} : ltQ a b = false ↔ ¬ (a.1 < b.1 ∨ (a.1 = b.1 ∧ a.2 < b.2)) := decide_eq_false_iff_not

def addD (o : List (Int × Int)) (p : Int × Int) : List (Int × Int) := if p ∈ o then o else o ++ [p]
def ddL (l : List (Int × Int)) : List (Int × Int) := l.foldl addD []
theorem ddL_snoc (l : List (Int × Int)) (p : Int × Int) : ddL (l ++ [p]) = addD (ddL l) p := by unfold ddL; rw [List.foldl_append]; rfl
theorem addD_in {o : List (Int × Int)} {p : Int × Int} (h : p ∈ o) : addD o p = o := if_pos h
theorem addD_out {o : List (Int × Int)} {p : Int × Int} (h : p ∉ o) : addD o p = o ++ [p] := if_neg h
theorem dd_mem : ∀ (l : List (Int × Int)) (p : Int × Int), p ∈ ddL l → p ∈ l := by
  intro l
  refine rev_ind (m := fun l => ∀ p, p ∈ ddL l → p ∈ l) (fun p h => h) (fun l x ih p h => ?_) l
  rw [ddL_snoc] at h
  by_cases hx : x ∈ ddL l
  · rw [addD_in hx] at h; exact List.mem_append_left _ (ih p h)
  · rw [addD_out hx] at h
    rcases List.mem_append.1 h with h | h
    · exact List.mem_append_left _ (ih p h)
    · exact List.mem_append_right _ h
theorem dd_len (l : List (Int × Int)) : (ddL l).length ≤ l.length := by
  refine rev_ind (m := fun l => (ddL l).length ≤ l.length) (Nat.le_refl _) (fun l x ih => ?_) l
  rw [ddL_snoc]
  by_cases hx : x ∈ ddL l
  · rw [addD_in hx]; simp; omega
  · rw [addD_out hx]; simp; exact ih

def insS (p : Int × Int) : List (Int × Int) → List (Int × Int)
  | [] => [p]
  | q :: l => if ltQ q p then q :: insS p l else p :: q :: l
def srtS : List (Int × Int) → List (Int × Int)
  | [] => []
  | p :: l => insS p (srtS l)
theorem ins_perm (p : Int × Int) : ∀ l, (insS p l).Perm (p :: l)
  | [] => List.Perm.refl _
  | q :: l => by
    unfold insS
    split
    · exact ((ins_perm p l).cons q).trans (List.Perm.swap p q l)
    · exact List.Perm.refl _
theorem srt_perm : ∀ l, (srtS l).Perm l
  | [] => List.Perm.refl _
  | p :: l => (ins_perm p (srtS l)).trans ((srt_perm l).cons p)
theorem ltQ_tr {a b c : Int × Int} (h : ltQ b a = false) (k : ltQ c b = false) : ltQ c a = false := by
  rw [ltQ_f] at *
  omega
theorem ins_up (p : Int × Int) : ∀ l, l.Pairwise (fun x y => ltQ y x = false) → (insS p l).Pairwise (fun x y => ltQ y x = false)
  | [], _ => List.pairwise_singleton _ _
  | q :: l, h => by
    have hq := List.pairwise_cons.1 h
    unfold insS
    by_cases hc : ltQ q p = true
    · rw [if_pos hc]
      refine List.Pairwise.cons (fun y hy => ?_) (ins_up p l hq.2)
      rcases List.mem_cons.1 ((ins_perm p l).mem_iff.1 hy) with rfl | hy
      · rw [ltQ_t] at hc
        rw [ltQ_f]
        omega
      · exact hq.1 y hy
    · rw [if_neg hc]
      have hc := Bool.eq_false_iff.2 hc
      refine List.Pairwise.cons (fun y hy => ?_) h
      rcases List.mem_cons.1 hy with rfl | hy
      · exact hc
      · exact ltQ_tr hc (hq.1 y hy)
theorem srt_up : ∀ l, (srtS l).Pairwise (fun x y => ltQ y x = false)
  | [] => List.Pairwise.nil
  | p :: l => ins_up p _ (srt_up l)
theorem ltQ_anti {a b : Int × Int} (h : ltQ b a = false) (k : ltQ a b = false) : a = b := by
  obtain ⟨a1, a2⟩ := a
  obtain ⟨b1, b2⟩ := b
  rw [ltQ_f] at *
  simp only [Prod.mk.injEq] at *
  omega
theorem srt_uniq : ∀ {l m : List (Int × Int)}, l.Perm m → l.Pairwise (fun x y => ltQ y x = false) → m.Pairwise (fun x y => ltQ y x = false) → l = m
  | [], m, h, _, _ => (List.nil_perm.1 h).symm ▸ rfl
  | a :: l, [], h, _, _ => by have := h.length_eq; simp at this
  | a :: l, b :: m, h, hl, hm => by
    have e : a = b := by
      have h1 := List.pairwise_cons.1 hl
      have h2 := List.pairwise_cons.1 hm
      rcases List.mem_cons.1 (h.mem_iff.1 (List.mem_cons_self (a := a) (l := l))) with e | ha
      · exact e
      · rcases List.mem_cons.1 (h.mem_iff.2 (List.mem_cons_self (a := b) (l := m))) with e | hb
        · exact e.symm
        · exact ltQ_anti (h1.1 b hb) (h2.1 a ha)
    subst e
    rw [srt_uniq ((List.perm_cons a).1 h) (List.pairwise_cons.1 hl).2 (List.pairwise_cons.1 hm).2]
theorem srt_of {d l : List (Int × Int)} (h : d.Perm l) (hs : d.Pairwise (fun x y => ltQ y x = false)) : d = srtS l :=
  srt_uniq (h.trans (srt_perm l).symm) hs (srt_up l)

def psS (S : List Sk) : List (Int × Int) := S.flatMap fun s => s.2.map Prod.fst
def fpS (S : List Sk) : List (Int × Int) := srtS (ddL (psS S))
theorem fp_mem {S : List Sk} {p : Int × Int} (h : p ∈ fpS S) : p ∈ psS S := dd_mem _ _ ((srt_perm _).mem_iff.1 h)
theorem fp_len (S : List Sk) : (fpS S).length ≤ (psS S).length := by
  unfold fpS; rw [(srt_perm _).length_eq]; exact dd_len _

def mvS (l : List Mq) (p : Int × Int) : Option (Int × Int) := (l.find? fun m => decide (m.1 = p)).map Prod.snd
def vlS : List Sk → Int × Int → Int × Int
  | [], _ => (-1, 0)
  | s :: S, p => match mvS s.2 p with
    | some v => v
    | none => bif s.1 then (-1, 0) else vlS S p

def lkS (S : List Sk) (k : Nat) : List En := (fpS S).map fun p => ⟨p.1, p.2, (vlS (S.take k).reverse p).1, (vlS (S.take k).reverse p).2⟩
theorem mv_none {ms : List Mv} {p : Int × Int} (h : ∀ j (hj : j < ms.length), (ms[j].ch, ms[j].atr) ≠ p) : mvS (ms.map Mv.q) p = none := by
  unfold mvS
  rw [Option.map_eq_none_iff, List.find?_eq_none]
  intro m hm
  obtain ⟨x, hx, rfl⟩ := List.mem_map.1 hm
  obtain ⟨j, hj, rfl⟩ := List.mem_iff_getElem.1 hx
  exact decide_eq_false (h j hj) ▸ Bool.false_ne_true
theorem mv_hit {ms : List Mv} {p : Int × Int} {k : Nat} (hk : k < ms.length) (hup : ms.Pairwise ltM) (h : (ms[k].ch, ms[k].atr) = p) : mvS (ms.map Mv.q) p = some (ms[k].pa, ms[k].le) := by
  unfold mvS
  have hf : (ms.map Mv.q).find? (fun m => decide (m.1 = p)) = some (Mv.q ms[k]) := by
    rw [List.find?_eq_some_iff_getElem]
    refine ⟨decide_eq_true h, k, by simpa using hk, by simp, fun j hj => ?_⟩
    have hlt := List.pairwise_iff_getElem.1 hup j k (by omega) hk hj
    have hne : (ms[j].ch, ms[j].atr) ≠ p := by
      rw [← h]
      unfold ltM ltP at hlt
      simp only [ne_eq, Prod.mk.injEq]
      omega
    rw [List.getElem_map, show decide ((ms[j].q).1 = p) = false from decide_eq_false hne]
    rfl
  rw [hf]
  rfl
theorem vl_skip (A B : List Sk) (p : Int × Int) : vlS (A ++ (false, []) :: B) p = vlS (A ++ B) p := by
  induction A with
  | nil => rfl
  | cons a A ih =>
    simp only [List.cons_append, vlS]
    rw [ih]

theorem fp_ins (A B : List Sk) : fpS (A ++ (false, []) :: B) = fpS (A ++ B) := by
  unfold fpS psS
  simp
theorem lk_ins_le (A B : List Sk) {k : Nat} (h : k ≤ A.length) : lkS (A ++ (false, []) :: B) k = lkS (A ++ B) k := by
  unfold lkS
  rw [fp_ins, List.take_append_of_le_length h, List.take_append_of_le_length h]
theorem lk_ins_gt (A B : List Sk) {k : Nat} (h : A.length ≤ k) : lkS (A ++ (false, []) :: B) (k + 1) = lkS (A ++ B) k := by
  unfold lkS
  rw [fp_ins]
  have e1 : ((A ++ (false, []) :: B).take (k + 1)).reverse = (B.take (k - A.length)).reverse ++ (false, []) :: A.reverse := by
    rw [List.take_append, List.take_of_length_le (by omega), show k + 1 - A.length = (k - A.length) + 1 by omega]
    simp
  have e2 : ((A ++ B).take k).reverse = (B.take (k - A.length)).reverse ++ A.reverse := by
    rw [List.take_append, List.take_of_length_le h]
    simp
  rw [e1, e2]
  refine List.map_congr_left fun p _ => ?_
  rw [vl_skip]
end Go.Proofs.YtbhkfemebionnaaGreatDoor

namespace Go.Proofs.YtbhkfemebionnaaGreatDoor
open Go.RowKit

theorem mv_place (d b : Int) : ∀ (l : List Mv), l.Pairwise ltM → ∃ m, m ≤ l.length ∧ (∀ t (h : t < l.length), t < m → cmpP l[t].ch l[t].atr d b < 0) ∧ (∀ t (h : t < l.length), m ≤ t → 0 ≤ cmpP l[t].ch l[t].atr d b)
  | [], _ => ⟨0, Nat.le_refl _, fun t h => absurd h (Nat.not_lt_zero _), fun t h => absurd h (Nat.not_lt_zero _)⟩
  | x :: l, hp => by
    have hp := List.pairwise_cons.1 hp
    by_cases hx : cmpP x.ch x.atr d b < 0
    · obtain ⟨m, h1, h2, h3⟩ := mv_place d b l hp.2
      refine ⟨m + 1, by simpa using h1, fun t h ht => ?_, fun t h ht => ?_⟩
      · cases t with
        | zero => exact hx
        | succ t => exact h2 t (by simpa using h) (by omega)
      · cases t with
        | zero => omega
        | succ t => exact h3 t (by simpa using h) (by omega)
    · refine ⟨0, Nat.zero_le _, fun t h ht => absurd ht (Nat.not_lt_zero _), fun t h _ => ?_⟩
      cases t with
      | zero => exact Int.not_lt.1 hx
      | succ t =>
        have ht : t < l.length := by simpa using h
        have h1 := hp.1 _ (List.getElem_mem ht)
        show 0 ≤ cmpP l[t].ch l[t].atr d b
        rw [← Int.not_lt, cmpP_lt]
        rw [cmpP_lt] at hx
        unfold ltM ltP at *
        omega
set_option maxHeartbeats 4000000 in
theorem nmv1_any (ch atr pa le pt d b : Int) (w : World) (h1 : parOK ch atr) (h2 : parOK d b) :
    Calls Tryz.prog 108 #[.agg #[.int .i64 ch, .int .i64 atr, .int .i64 pa, .int .i64 le, .int .i64 pt], .agg #[.int .i64 d, .int .i64 b]] w fun e w' => e = .returned (.int .i64 (cmpP ch atr d b)) ∧ Below w.heap.size w w' := by
  have hB0 : Below w.heap.size w ((w.alloc (.cells #[.int .i64 ch, .int .i64 atr, .int .i64 pa, .int .i64 le, .int .i64 pt] 43)).alloc (.cells #[.int .i64 d, .int .i64 b] 39)) := ((Below.refl _ _).alloc (Nat.le_refl _) _).alloc (by simp) _
  have HM := Lib.hid (ncmpt_any ch atr d b ((w.alloc (.cells #[.int .i64 ch, .int .i64 atr, .int .i64 pa, .int .i64 le, .int .i64 pt] 43)).alloc (.cells #[.int .i64 d, .int .i64 b] 39)) h1 h2)
  clear h1 h2
  go_enter Tryz.func108, Tryz.ntmps108
  go_wp2_with (go_at_call 85; with_reducible refine HM.out.mono ?_; rintro e w7 ⟨rfl, hb7⟩)
  go_ret
  exact ⟨rfl, hB0.trans (hb7.mono hB0.size)⟩
set_option maxRecDepth 100000 in
set_option maxHeartbeats 16000000 in
theorem nbs_any (d bb : Int) (A : Option Addr) (n c : Nat) (l : List Mv) (w : World) (hl : shMv.In w A n l) (h2 : parOK d bb) (hok : ∀ m ∈ l, parOK m.ch m.atr) (hup : l.Pairwise ltM) (hn : n ≤ 1000000) :
    Calls Tryz.prog 107 #[.slice A n c, .agg #[.int .i64 d, .int .i64 bb], .func (.func 108) #[] #[]] w fun e w' => ∃ (k : Nat) (f : Bool), e = .returned (.tuple #[.int .i64 k, .bool f]) ∧ (f = true → ∃ h : k < l.length, (l[k].ch, l[k].atr) = (d, bb)) ∧ (f = false → ∀ j (h : j < l.length), (l[j].ch, l[j].atr) ≠ (d, bb)) ∧ Below w.heap.size w w' := by
  have hn2 : n = l.length := hl.1
  subst hn2
  obtain ⟨m, hm, hlo, hhi⟩ := mv_place d bb l hup
  have e108 := enters_of Tryz.func108 (by kernel_rfl) rfl
  obtain ⟨W, hW⟩ : ∃ W, W = w.alloc (.cells #[.int .i64 d, .int .i64 bb] 39) := ⟨_, rfl⟩
  have hB0 : Below w.heap.size w W := by rw [hW]; exact (Below.refl _ _).alloc (Nat.le_refl _) _
  have hcW : Cells W w.heap.size [.int .i64 d, .int .i64 bb] := by rw [hW]; exact Cells.fresh w [.int .i64 d, .int .i64 bb] _
  have HK := Lib.hid (show ∀ V, Below W.heap.size W V → V.cell? ⟨w.heap.size, 0, none⟩ = some (.int .i64 d) ∧ V.cell? ⟨w.heap.size, 1, none⟩ = some (.int .i64 bb) ∧ w.heap.size < V.heap.size from fun V h => by
    have hc := hcW.below h hcW.1
    exact ⟨hc.at_ (j := 0) rfl, hc.at_ (j := 1) rfl, hc.1⟩)
  have HW := Lib.hid hW
  have HB0 := Lib.hid hB0
  have HL := Lib.hid (hl.below hB0)
  have HOk := Lib.hid hok
  have HLo := Lib.hid hlo
  have HHi := Lib.hid hhi
  have HP2 := Lib.hid h2
  have HUp := Lib.hid hup
  clear hW hB0 hcW hl hok hlo hhi h2 hup
  go_enter Tryz.func107, Tryz.ntmps107
  go_wp2_with fail
  rw [← HW.out]
  go_loopw [9, 10] (fun s9 s10 wr => ∃ (lo hi : Nat), s9 = .int .i64 lo ∧ s10 = .int .i64 hi ∧ lo ≤ m ∧ m ≤ hi ∧ hi ≤ l.length ∧ Below W.heap.size W wr) (fun s9 s10 _ => (intOf s10 - intOf s9).toNat)
  case atStart => exact ⟨0, l.length, rfl, rfl, Nat.zero_le _, hm, Nat.le_refl _, Below.refl _ _⟩
  case round =>
    obtain ⟨lo, hi, rfl, rfl, hlm, hmh, hin, hB⟩ := hrel
    by_cases hlt : lo < hi
    · obtain ⟨h, hh'⟩ : ∃ h, h = (lo + hi) / 2 := ⟨_, rfl⟩
      have hh : h < l.length := by omega
      have jm : (lo + hi) / 2 < l.length := by omega
      have HQ := Lib.hid (show (h : Int) = ((lo : Int) + (hi : Int)) / 2 by omega)
      have i0 : (0 : Int) ≤ ((lo : Int) + (hi : Int)) / 2 := by omega
      have i1 : ((lo : Int) + (hi : Int)) / 2 < (l.length : Int) := by omega
      have jn : (((lo : Int) + (hi : Int)) / 2).toNat = (lo + hi) / 2 := by omega
      subst hh'
      obtain ⟨b, o, rfl, hbl, hcell⟩ := mv_at HL.out (by omega)
      have hck := hcell _ hh
      have hpar := HOk.out l[(lo + hi) / 2] (List.getElem_mem hh)
      have HY := Lib.hid (show cmpP l[(lo + hi) / 2].ch l[(lo + hi) / 2].atr d bb < 0 → (lo + hi) / 2 + 1 ≤ m from fun hc => by
        rcases Nat.lt_or_ge ((lo + hi) / 2) m with h3 | h3
        · exact h3
        · exact absurd hc (Int.not_lt.2 (HHi.out _ hh h3)))
      have HN := Lib.hid (show 0 ≤ cmpP l[(lo + hi) / 2].ch l[(lo + hi) / 2].atr d bb → m ≤ (lo + hi) / 2 from fun hc => by
        rcases Nat.lt_or_ge ((lo + hi) / 2) m with h3 | h3
        · have := HLo.out _ hh h3; omega
        · exact h3)
      generalize l[(lo + hi) / 2] = x at *
      obtain ⟨ch, atr, pa, le, pt⟩ := x
      have HPc := Lib.hid (show ∀ w', Below W.heap.size W w' → w'.cell? ⟨b, o + (lo + hi) / 2 * 5, none⟩ = some (.int .i64 ch) ∧ w'.cell? ⟨b, o + (lo + hi) / 2 * 5 + 1, none⟩ = some (.int .i64 atr) ∧ w'.cell? ⟨b, o + (lo + hi) / 2 * 5 + 2, none⟩ = some (.int .i64 pa) ∧ w'.cell? ⟨b, o + (lo + hi) / 2 * 5 + 3, none⟩ = some (.int .i64 le) ∧ w'.cell? ⟨b, o + (lo + hi) / 2 * 5 + 4, none⟩ = some (.int .i64 pt) ∧ b < w'.heap.size from fun w' hV => by
        obtain ⟨r0, r1, r2, r3, r4⟩ := hck
        exact ⟨(hV.cell (p := ⟨b, o + (lo + hi) / 2 * 5, none⟩) hbl).trans r0, (hV.cell (p := ⟨b, o + (lo + hi) / 2 * 5 + 1, none⟩) hbl).trans r1, (hV.cell (p := ⟨b, o + (lo + hi) / 2 * 5 + 2, none⟩) hbl).trans r2, (hV.cell (p := ⟨b, o + (lo + hi) / 2 * 5 + 3, none⟩) hbl).trans r3, (hV.cell (p := ⟨b, o + (lo + hi) / 2 * 5 + 4, none⟩) hbl).trans r4, Nat.lt_of_lt_of_le hbl hV.size⟩)
      have HMv := Lib.hid (fun w => nmv1_any ch atr pa le pt d bb w hpar HP2.out)
      dsimp only at HMv HY HN
      generalize cmpP ch atr d bb = cc at *
      clear hcell hck hpar hbl
      have HB9 := Lib.hid (And.intro hlm (And.intro hmh hin))
      by_cases hcc : cc < 0
      · have HY2 := Lib.hid (HY.out hcc)
        clear hlm hmh
        go_wp2_with fail
        replace hB := below_drewN hB 1
        obtain ⟨q0, q1, hsz⟩ := HK.out _ hB; obtain ⟨p0, p1, p2, p3, p4, hbw⟩ := HPc.out _ hB
        refine wp_region_held_drew (S := fun w' => w'.cell? ⟨b, o + (lo + hi) / 2 * 5, none⟩ = some (.int .i64 ch) ∧ w'.cell? ⟨b, o + (lo + hi) / 2 * 5 + 1, none⟩ = some (.int .i64 atr) ∧ w'.cell? ⟨b, o + (lo + hi) / 2 * 5 + 2, none⟩ = some (.int .i64 pa) ∧ w'.cell? ⟨b, o + (lo + hi) / 2 * 5 + 3, none⟩ = some (.int .i64 le) ∧ w'.cell? ⟨b, o + (lo + hi) / 2 * 5 + 4, none⟩ = some (.int .i64 pt) ∧ w'.cell? ⟨w.heap.size, 0, none⟩ = some (.int .i64 d) ∧ w'.cell? ⟨w.heap.size, 1, none⟩ = some (.int .i64 bb)) (by kernel_rfl) (by first | exact ⟨p0, p1, p2, p3, p4, q0, q1⟩) (fun hHeld => ?_)
        refine wpAnyH_take (i := 0) (oi := ?_) (v := ?_) ?_ (by kernel_rfl) (by kernel_rfl) (by kernel_rfl) ?_ (Or.inl ⟨?_, ?_⟩) (by assumption) ?_
        rotate_left 2
        · (simp only [List.getElem?_toArray, List.getElem?_cons_zero]; rfl)
        · exact fun _ _ _ h => h
        · rfl
        · (intro w hSw; (try dsimp only at hSw); go_simp; try with_reducible rfl)
        simp only [Act.put, List.setIfInBounds_toArray, List.set_cons_zero, List.set_cons_succ]
        refine wpAnyH_take (i := 1) (oi := ?_) (v := ?_) ?_ (by kernel_rfl) (by kernel_rfl) (by kernel_rfl) ?_ (Or.inl ⟨?_, ?_⟩) (by assumption) ?_
        rotate_left 2
        · (simp only [List.getElem?_toArray, List.getElem?_cons_succ, List.getElem?_cons_zero]; rfl)
        · exact fun _ _ _ h => h
        · rfl
        · (intro w hSw; (try dsimp only at hSw); go_simp; try with_reducible rfl)
        simp only [Act.put, List.setIfInBounds_toArray, List.set_cons_zero, List.set_cons_succ]
        refine wpAnyH_take (i := 2) (oi := ?_) (v := ?_) ?_ (by kernel_rfl) (by kernel_rfl) (by kernel_rfl) ?_ (Or.inl ⟨?_, ?_⟩) (by assumption) ?_
        rotate_left 2
        · (simp only [List.getElem?_toArray, List.getElem?_cons_succ, List.getElem?_cons_zero]; rfl)
        · exact fun _ _ _ h => h
        · rfl
        · (intro w hSw; (try dsimp only at hSw); go_simp; try with_reducible rfl)
        simp only [Act.put, List.setIfInBounds_toArray, List.set_cons_zero, List.set_cons_succ]
        refine wpAnyH_take (i := 3) (oi := ?_) (v := ?_) ?_ (by kernel_rfl) (by kernel_rfl) (by kernel_rfl) ?_ (Or.inl ⟨?_, ?_⟩) (by assumption) ?_
        rotate_left 2
        · (simp only [List.getElem?_toArray, List.getElem?_cons_succ, List.getElem?_cons_zero]; rfl)
        · exact fun _ _ _ h => h
        · rfl
        · (intro w hSw; (try dsimp only at hSw); go_simp; try with_reducible rfl)
        simp only [Act.put, List.setIfInBounds_toArray, List.set_cons_zero, List.set_cons_succ]
        refine wpAnyH_take (i := 4) (oi := ?_) (v := ?_) ?_ (by kernel_rfl) (by kernel_rfl) (by kernel_rfl) ?_ (Or.inl ⟨?_, ?_⟩) (by assumption) ?_
        rotate_left 2
        · (simp only [List.getElem?_toArray, List.getElem?_cons_succ, List.getElem?_cons_zero]; rfl)
        · exact fun _ _ _ h => h
        · rfl
        · (intro w hSw; (try dsimp only at hSw); go_simp; try with_reducible rfl)
        simp only [Act.put, List.setIfInBounds_toArray, List.set_cons_zero, List.set_cons_succ]
        refine wpAnyH_take (i := 5) (oi := ?_) (v := ?_) ?_ (by kernel_rfl) (by kernel_rfl) (by kernel_rfl) ?_ (Or.inl ⟨?_, ?_⟩) (by assumption) ?_
        rotate_left 2
        · (simp only [List.getElem?_toArray, List.getElem?_cons_succ, List.getElem?_cons_zero]; rfl)
        · exact fun _ _ _ h => h
        · rfl
        · (intro w hSw; (try dsimp only at hSw); go_simp; try with_reducible rfl)
        simp only [Act.put, List.setIfInBounds_toArray, List.set_cons_zero, List.set_cons_succ]
        refine wpAnyH_ready (rs := [6]) (by kernel_rfl) (by simp) ?_
        refine AllReadyH.cons rfl (fun K hK => ?_) AllReadyH.nil
        go_simp
        go_at_call 108; with_reducible refine (HMv.out _).mono ?_; rintro e w7 ⟨rfl, hb7⟩; replace hB := hB.trans (hb7.mono hB.size); clear hb7; obtain ⟨q0, q1, hsz⟩ := HK.out _ hB; obtain ⟨p0, p1, p2, p3, p4, hbw⟩ := HPc.out _ hB
        go_wp2_with fail
        refine hK.out _ _ (by first | exact ⟨p0, p1, p2, p3, p4, q0, q1⟩) (fun hHeld => ?_)
        clear hK K
        try simp only [Act.put, List.setIfInBounds_toArray, List.set_cons_zero, List.set_cons_succ]
        refine wpAnyH_take (i := 7) (oi := ?_) (v := ?_) ?_ (by kernel_rfl) (by kernel_rfl) (by kernel_rfl) ?_ (Or.inl ⟨?_, ?_⟩) (by assumption) ?_
        rotate_left 2
        · (simp only [List.getElem?_toArray, List.getElem?_cons_succ, List.getElem?_cons_zero]; rfl)
        · exact fun _ _ _ h => h
        · rfl
        · (intro w hSw; (try dsimp only at hSw); go_simp; try with_reducible rfl)
        simp only [Act.put, List.setIfInBounds_toArray, List.set_cons_zero, List.set_cons_succ]
        refine wpAnyH_done (by kernel_rfl) ?_ _
        go_wp2_with fail
        go_roundw
        case rel => exact ⟨(lo + hi) / 2 + 1, hi, by rw [← HQ.out]; go_num, rfl, HY2.out, HB9.out.2.1, HB9.out.2.2, hB⟩
        case measure => simp [intOf]; omega
      · have HN2 := Lib.hid (HN.out (by omega))
        clear hlm hmh
        go_wp2_with fail
        replace hB := below_drewN hB 1
        obtain ⟨q0, q1, hsz⟩ := HK.out _ hB; obtain ⟨p0, p1, p2, p3, p4, hbw⟩ := HPc.out _ hB
        refine wp_region_held_drew (S := fun w' => w'.cell? ⟨b, o + (lo + hi) / 2 * 5, none⟩ = some (.int .i64 ch) ∧ w'.cell? ⟨b, o + (lo + hi) / 2 * 5 + 1, none⟩ = some (.int .i64 atr) ∧ w'.cell? ⟨b, o + (lo + hi) / 2 * 5 + 2, none⟩ = some (.int .i64 pa) ∧ w'.cell? ⟨b, o + (lo + hi) / 2 * 5 + 3, none⟩ = some (.int .i64 le) ∧ w'.cell? ⟨b, o + (lo + hi) / 2 * 5 + 4, none⟩ = some (.int .i64 pt) ∧ w'.cell? ⟨w.heap.size, 0, none⟩ = some (.int .i64 d) ∧ w'.cell? ⟨w.heap.size, 1, none⟩ = some (.int .i64 bb)) (by kernel_rfl) (by first | exact ⟨p0, p1, p2, p3, p4, q0, q1⟩) (fun hHeld => ?_)
        refine wpAnyH_take (i := 0) (oi := ?_) (v := ?_) ?_ (by kernel_rfl) (by kernel_rfl) (by kernel_rfl) ?_ (Or.inl ⟨?_, ?_⟩) (by assumption) ?_
        rotate_left 2
        · (simp only [List.getElem?_toArray, List.getElem?_cons_zero]; rfl)
        · exact fun _ _ _ h => h
        · rfl
        · (intro w hSw; (try dsimp only at hSw); go_simp; try with_reducible rfl)
        simp only [Act.put, List.setIfInBounds_toArray, List.set_cons_zero, List.set_cons_succ]
        refine wpAnyH_take (i := 1) (oi := ?_) (v := ?_) ?_ (by kernel_rfl) (by kernel_rfl) (by kernel_rfl) ?_ (Or.inl ⟨?_, ?_⟩) (by assumption) ?_
        rotate_left 2
        · (simp only [List.getElem?_toArray, List.getElem?_cons_succ, List.getElem?_cons_zero]; rfl)
        · exact fun _ _ _ h => h
        · rfl
        · (intro w hSw; (try dsimp only at hSw); go_simp; try with_reducible rfl)
        simp only [Act.put, List.setIfInBounds_toArray, List.set_cons_zero, List.set_cons_succ]
        refine wpAnyH_take (i := 2) (oi := ?_) (v := ?_) ?_ (by kernel_rfl) (by kernel_rfl) (by kernel_rfl) ?_ (Or.inl ⟨?_, ?_⟩) (by assumption) ?_
        rotate_left 2
        · (simp only [List.getElem?_toArray, List.getElem?_cons_succ, List.getElem?_cons_zero]; rfl)
        · exact fun _ _ _ h => h
        · rfl
        · (intro w hSw; (try dsimp only at hSw); go_simp; try with_reducible rfl)
        simp only [Act.put, List.setIfInBounds_toArray, List.set_cons_zero, List.set_cons_succ]
        refine wpAnyH_take (i := 3) (oi := ?_) (v := ?_) ?_ (by kernel_rfl) (by kernel_rfl) (by kernel_rfl) ?_ (Or.inl ⟨?_, ?_⟩) (by assumption) ?_
        rotate_left 2
        · (simp only [List.getElem?_toArray, List.getElem?_cons_succ, List.getElem?_cons_zero]; rfl)
        · exact fun _ _ _ h => h
        · rfl
        · (intro w hSw; (try dsimp only at hSw); go_simp; try with_reducible rfl)
        simp only [Act.put, List.setIfInBounds_toArray, List.set_cons_zero, List.set_cons_succ]
        refine wpAnyH_take (i := 4) (oi := ?_) (v := ?_) ?_ (by kernel_rfl) (by kernel_rfl) (by kernel_rfl) ?_ (Or.inl ⟨?_, ?_⟩) (by assumption) ?_
        rotate_left 2
        · (simp only [List.getElem?_toArray, List.getElem?_cons_succ, List.getElem?_cons_zero]; rfl)
        · exact fun _ _ _ h => h
        · rfl
        · (intro w hSw; (try dsimp only at hSw); go_simp; try with_reducible rfl)
        simp only [Act.put, List.setIfInBounds_toArray, List.set_cons_zero, List.set_cons_succ]
        refine wpAnyH_take (i := 5) (oi := ?_) (v := ?_) ?_ (by kernel_rfl) (by kernel_rfl) (by kernel_rfl) ?_ (Or.inl ⟨?_, ?_⟩) (by assumption) ?_
        rotate_left 2
        · (simp only [List.getElem?_toArray, List.getElem?_cons_succ, List.getElem?_cons_zero]; rfl)
        · exact fun _ _ _ h => h
        · rfl
        · (intro w hSw; (try dsimp only at hSw); go_simp; try with_reducible rfl)
        simp only [Act.put, List.setIfInBounds_toArray, List.set_cons_zero, List.set_cons_succ]
        refine wpAnyH_ready (rs := [6]) (by kernel_rfl) (by simp) ?_
        refine AllReadyH.cons rfl (fun K hK => ?_) AllReadyH.nil
        go_simp
        go_at_call 108; with_reducible refine (HMv.out _).mono ?_; rintro e w7 ⟨rfl, hb7⟩; replace hB := hB.trans (hb7.mono hB.size); clear hb7; obtain ⟨q0, q1, hsz⟩ := HK.out _ hB; obtain ⟨p0, p1, p2, p3, p4, hbw⟩ := HPc.out _ hB
        go_wp2_with fail
        refine hK.out _ _ (by first | exact ⟨p0, p1, p2, p3, p4, q0, q1⟩) (fun hHeld => ?_)
        clear hK K
        try simp only [Act.put, List.setIfInBounds_toArray, List.set_cons_zero, List.set_cons_succ]
        refine wpAnyH_take (i := 7) (oi := ?_) (v := ?_) ?_ (by kernel_rfl) (by kernel_rfl) (by kernel_rfl) ?_ (Or.inl ⟨?_, ?_⟩) (by assumption) ?_
        rotate_left 2
        · (simp only [List.getElem?_toArray, List.getElem?_cons_succ, List.getElem?_cons_zero]; rfl)
        · exact fun _ _ _ h => h
        · rfl
        · (intro w hSw; (try dsimp only at hSw); go_simp; try with_reducible rfl)
        simp only [Act.put, List.setIfInBounds_toArray, List.set_cons_zero, List.set_cons_succ]
        refine wpAnyH_done (by kernel_rfl) ?_ _
        go_wp2_with fail
        go_roundw
        case rel => exact ⟨lo, (lo + hi) / 2, rfl, by rw [HQ.out], HB9.out.1, HN2.out, by omega, hB⟩
        case measure => simp [intOf]; omega
    · obtain rfl : lo = m := by omega
      obtain rfl : lo = hi := by omega
      have HI := Lib.hid hin
      clear hmh hlm hlt
      by_cases hh : lo < l.length
      · have g1 : (lo : Int) < (l.length : Int) := by omega
        have i0 : (0 : Int) ≤ (lo : Int) := by omega
        obtain ⟨b, o, rfl, hbl, hcell⟩ := mv_at HL.out (by omega)
        have hck := hcell lo hh
        have hpar := HOk.out l[lo] (List.getElem_mem hh)
        have HT := Lib.hid (show cmpP l[lo].ch l[lo].atr d bb = 0 → ∃ h : lo < l.length, (l[lo].ch, l[lo].atr) = (d, bb) from fun hc => ⟨hh, by rw [cmpP_eq] at hc; rw [hc.1, hc.2]⟩)
        have HF := Lib.hid (show ¬ cmpP l[lo].ch l[lo].atr d bb = 0 → ∀ j (h : j < l.length), (l[j].ch, l[j].atr) ≠ (d, bb) from fun hc j hj he => by
          simp only [Prod.mk.injEq] at he
          have hz : cmpP l[j].ch l[j].atr d bb = 0 := cmpP_eq.2 he
          rcases Nat.lt_trichotomy j lo with h3 | h3 | h3
          · have := HLo.out j hj h3; omega
          · subst h3; exact hc hz
          · have h4 := List.pairwise_iff_getElem.1 HUp.out lo j hh hj h3
            have h5 := HHi.out lo hh (Nat.le_refl _)
            have h6 : ¬ ltP l[lo].ch l[lo].atr d bb := fun hh6 => by have := cmpP_lt.2 hh6; omega
            unfold ltM ltP at *
            omega)
        clear hcell
        obtain ⟨x, hx⟩ : ∃ x, x = l[lo] := ⟨_, rfl⟩
        rw [← hx] at hck hpar
        have hcx : cmpP l[lo].ch l[lo].atr d bb = cmpP x.ch x.atr d bb := by rw [hx]
        rw [hcx] at HT HF
        clear hx hcx
        obtain ⟨ch, atr, pa, le, pt⟩ := x
        have HPc := Lib.hid (show ∀ w', Below W.heap.size W w' → w'.cell? ⟨b, o + lo * 5, none⟩ = some (.int .i64 ch) ∧ w'.cell? ⟨b, o + lo * 5 + 1, none⟩ = some (.int .i64 atr) ∧ w'.cell? ⟨b, o + lo * 5 + 2, none⟩ = some (.int .i64 pa) ∧ w'.cell? ⟨b, o + lo * 5 + 3, none⟩ = some (.int .i64 le) ∧ w'.cell? ⟨b, o + lo * 5 + 4, none⟩ = some (.int .i64 pt) ∧ b < w'.heap.size from fun w' hV => by
          obtain ⟨r0, r1, r2, r3, r4⟩ := hck
          exact ⟨(hV.cell (p := ⟨b, o + lo * 5, none⟩) hbl).trans r0, (hV.cell (p := ⟨b, o + lo * 5 + 1, none⟩) hbl).trans r1, (hV.cell (p := ⟨b, o + lo * 5 + 2, none⟩) hbl).trans r2, (hV.cell (p := ⟨b, o + lo * 5 + 3, none⟩) hbl).trans r3, (hV.cell (p := ⟨b, o + lo * 5 + 4, none⟩) hbl).trans r4, Nat.lt_of_lt_of_le hbl hV.size⟩)
        clear hck hbl
        have HMv := Lib.hid (fun w => nmv1_any ch atr pa le pt d bb w hpar HP2.out)
        dsimp only at HMv HT HF HPc
        generalize cmpP ch atr d bb = cc at *
        clear hpar
        by_cases hcc : cc = 0
        · have HT2 := Lib.hid (HT.out hcc)
          have g2 : (cc == 0) = true := by simpa using hcc
          clear hcc
          go_wp2_with fail
          replace hB := below_drewN hB 1
          obtain ⟨q0, q1, hsz⟩ := HK.out _ hB; obtain ⟨p0, p1, p2, p3, p4, hbw⟩ := HPc.out _ hB
          refine wp_region_held_drew (S := fun w' => w'.cell? ⟨b, o + lo * 5, none⟩ = some (.int .i64 ch) ∧ w'.cell? ⟨b, o + lo * 5 + 1, none⟩ = some (.int .i64 atr) ∧ w'.cell? ⟨b, o + lo * 5 + 2, none⟩ = some (.int .i64 pa) ∧ w'.cell? ⟨b, o + lo * 5 + 3, none⟩ = some (.int .i64 le) ∧ w'.cell? ⟨b, o + lo * 5 + 4, none⟩ = some (.int .i64 pt) ∧ w'.cell? ⟨w.heap.size, 0, none⟩ = some (.int .i64 d) ∧ w'.cell? ⟨w.heap.size, 1, none⟩ = some (.int .i64 bb)) (by kernel_rfl) (by first | exact ⟨p0, p1, p2, p3, p4, q0, q1⟩) (fun hHeld => ?_)
          refine wpAnyH_take (i := 0) (oi := ?_) (v := ?_) ?_ (by kernel_rfl) (by kernel_rfl) (by kernel_rfl) ?_ (Or.inl ⟨?_, ?_⟩) (by assumption) ?_
          rotate_left 2
          · (simp only [List.getElem?_toArray, List.getElem?_cons_zero]; rfl)
          · exact fun _ _ _ h => h
          · rfl
          · (intro w hSw; (try dsimp only at hSw); go_simp; try with_reducible rfl)
          simp only [Act.put, List.setIfInBounds_toArray, List.set_cons_zero, List.set_cons_succ]
          refine wpAnyH_take (i := 1) (oi := ?_) (v := ?_) ?_ (by kernel_rfl) (by kernel_rfl) (by kernel_rfl) ?_ (Or.inl ⟨?_, ?_⟩) (by assumption) ?_
          rotate_left 2
          · (simp only [List.getElem?_toArray, List.getElem?_cons_succ, List.getElem?_cons_zero]; rfl)
          · exact fun _ _ _ h => h
          · rfl
          · (intro w hSw; (try dsimp only at hSw); go_simp; try with_reducible rfl)
          simp only [Act.put, List.setIfInBounds_toArray, List.set_cons_zero, List.set_cons_succ]
          refine wpAnyH_take (i := 2) (oi := ?_) (v := ?_) ?_ (by kernel_rfl) (by kernel_rfl) (by kernel_rfl) ?_ (Or.inl ⟨?_, ?_⟩) (by assumption) ?_
          rotate_left 2
          · (simp only [List.getElem?_toArray, List.getElem?_cons_succ, List.getElem?_cons_zero]; rfl)
          · exact fun _ _ _ h => h
          · rfl
          · (intro w hSw; (try dsimp only at hSw); go_simp; try with_reducible rfl)
          simp only [Act.put, List.setIfInBounds_toArray, List.set_cons_zero, List.set_cons_succ]
          refine wpAnyH_take (i := 3) (oi := ?_) (v := ?_) ?_ (by kernel_rfl) (by kernel_rfl) (by kernel_rfl) ?_ (Or.inl ⟨?_, ?_⟩) (by assumption) ?_
          rotate_left 2
          · (simp only [List.getElem?_toArray, List.getElem?_cons_succ, List.getElem?_cons_zero]; rfl)
          · exact fun _ _ _ h => h
          · rfl
          · (intro w hSw; (try dsimp only at hSw); go_simp; try with_reducible rfl)
          simp only [Act.put, List.setIfInBounds_toArray, List.set_cons_zero, List.set_cons_succ]
          refine wpAnyH_take (i := 4) (oi := ?_) (v := ?_) ?_ (by kernel_rfl) (by kernel_rfl) (by kernel_rfl) ?_ (Or.inl ⟨?_, ?_⟩) (by assumption) ?_
          rotate_left 2
          · (simp only [List.getElem?_toArray, List.getElem?_cons_succ, List.getElem?_cons_zero]; rfl)
          · exact fun _ _ _ h => h
          · rfl
          · (intro w hSw; (try dsimp only at hSw); go_simp; try with_reducible rfl)
          simp only [Act.put, List.setIfInBounds_toArray, List.set_cons_zero, List.set_cons_succ]
          refine wpAnyH_take (i := 5) (oi := ?_) (v := ?_) ?_ (by kernel_rfl) (by kernel_rfl) (by kernel_rfl) ?_ (Or.inl ⟨?_, ?_⟩) (by assumption) ?_
          rotate_left 2
          · (simp only [List.getElem?_toArray, List.getElem?_cons_succ, List.getElem?_cons_zero]; rfl)
          · exact fun _ _ _ h => h
          · rfl
          · (intro w hSw; (try dsimp only at hSw); go_simp; try with_reducible rfl)
          simp only [Act.put, List.setIfInBounds_toArray, List.set_cons_zero, List.set_cons_succ]
          refine wpAnyH_take (i := 6) (oi := ?_) (v := ?_) ?_ (by kernel_rfl) (by kernel_rfl) (by kernel_rfl) ?_ (Or.inl ⟨?_, ?_⟩) (by assumption) ?_
          rotate_left 2
          · (simp only [List.getElem?_toArray, List.getElem?_cons_succ, List.getElem?_cons_zero]; rfl)
          · exact fun _ _ _ h => h
          · rfl
          · (intro w hSw; (try dsimp only at hSw); go_simp; try with_reducible rfl)
          simp only [Act.put, List.setIfInBounds_toArray, List.set_cons_zero, List.set_cons_succ]
          refine wpAnyH_take (i := 7) (oi := ?_) (v := ?_) ?_ (by kernel_rfl) (by kernel_rfl) (by kernel_rfl) ?_ (Or.inl ⟨?_, ?_⟩) (by assumption) ?_
          rotate_left 2
          · (simp only [List.getElem?_toArray, List.getElem?_cons_succ, List.getElem?_cons_zero]; rfl)
          · exact fun _ _ _ h => h
          · rfl
          · (intro w hSw; (try dsimp only at hSw); go_simp; try with_reducible rfl)
          simp only [Act.put, List.setIfInBounds_toArray, List.set_cons_zero, List.set_cons_succ]
          refine wpAnyH_take (i := 8) (oi := ?_) (v := ?_) ?_ (by kernel_rfl) (by kernel_rfl) (by kernel_rfl) ?_ (Or.inl ⟨?_, ?_⟩) (by assumption) ?_
          rotate_left 2
          · (simp only [List.getElem?_toArray, List.getElem?_cons_succ, List.getElem?_cons_zero]; rfl)
          · exact fun _ _ _ h => h
          · rfl
          · (intro w hSw; (try dsimp only at hSw); go_simp; try with_reducible rfl)
          simp only [Act.put, List.setIfInBounds_toArray, List.set_cons_zero, List.set_cons_succ]
          refine wpAnyH_take (i := 9) (oi := ?_) (v := ?_) ?_ (by kernel_rfl) (by kernel_rfl) (by kernel_rfl) ?_ (Or.inl ⟨?_, ?_⟩) (by assumption) ?_
          rotate_left 2
          · (simp only [List.getElem?_toArray, List.getElem?_cons_succ, List.getElem?_cons_zero]; rfl)
          · exact fun _ _ _ h => h
          · rfl
          · (intro w hSw; (try dsimp only at hSw); go_simp; try with_reducible rfl)
          simp only [Act.put, List.setIfInBounds_toArray, List.set_cons_zero, List.set_cons_succ]
          refine wpAnyH_take (i := 10) (oi := ?_) (v := ?_) ?_ (by kernel_rfl) (by kernel_rfl) (by kernel_rfl) ?_ (Or.inl ⟨?_, ?_⟩) (by assumption) ?_
          rotate_left 2
          · (simp only [List.getElem?_toArray, List.getElem?_cons_succ, List.getElem?_cons_zero]; rfl)
          · exact fun _ _ _ h => h
          · rfl
          · (intro w hSw; (try dsimp only at hSw); go_simp; try with_reducible rfl)
          simp only [Act.put, List.setIfInBounds_toArray, List.set_cons_zero, List.set_cons_succ]
          refine wpAnyH_ready (rs := [11]) (by kernel_rfl) (by simp) ?_
          refine AllReadyH.cons rfl (fun K hK => ?_) AllReadyH.nil
          go_simp
          go_at_call 108; with_reducible refine (HMv.out _).mono ?_; rintro e w7 ⟨rfl, hb7⟩; replace hB := hB.trans (hb7.mono hB.size); clear hb7; obtain ⟨q0, q1, hsz⟩ := HK.out _ hB; obtain ⟨p0, p1, p2, p3, p4, hbw⟩ := HPc.out _ hB
          go_wp2_with fail
          refine hK.out _ _ (by first | exact ⟨p0, p1, p2, p3, p4, q0, q1⟩) (fun hHeld => ?_)
          clear hK K
          try simp only [Act.put, List.setIfInBounds_toArray, List.set_cons_zero, List.set_cons_succ]
          refine wpAnyH_take (i := 12) (oi := ?_) (v := ?_) ?_ (by kernel_rfl) (by kernel_rfl) (by kernel_rfl) ?_ (Or.inl ⟨?_, ?_⟩) (by assumption) ?_
          rotate_left 2
          · (simp only [List.getElem?_toArray, List.getElem?_cons_succ, List.getElem?_cons_zero]; rfl)
          · exact fun _ _ _ h => h
          · rfl
          · (intro w hSw; (try dsimp only at hSw); go_simp; try with_reducible rfl)
          simp only [Act.put, List.setIfInBounds_toArray, List.set_cons_zero, List.set_cons_succ]
          refine wpAnyH_take (i := 13) (oi := ?_) (v := ?_) ?_ (by kernel_rfl) (by kernel_rfl) (by kernel_rfl) ?_ (Or.inl ⟨?_, ?_⟩) (by assumption) ?_
          rotate_left 2
          · (simp only [List.getElem?_toArray, List.getElem?_cons_succ, List.getElem?_cons_zero]; rfl)
          · exact fun _ _ _ h => h
          · rfl
          · (intro w hSw; (try dsimp only at hSw); go_simp; try with_reducible rfl)
          simp only [Act.put, List.setIfInBounds_toArray, List.set_cons_zero, List.set_cons_succ]
          refine wpAnyH_take (i := 14) (oi := ?_) (v := ?_) ?_ (by kernel_rfl) (by kernel_rfl) (by kernel_rfl) ?_ (Or.inl ⟨?_, ?_⟩) (by assumption) ?_
          rotate_left 2
          · (simp only [List.getElem?_toArray, List.getElem?_cons_succ, List.getElem?_cons_zero]; rfl)
          · exact fun _ _ _ h => h
          · rfl
          · (intro w hSw; (try dsimp only at hSw); go_simp; try with_reducible rfl)
          simp only [Act.put, List.setIfInBounds_toArray, List.set_cons_zero, List.set_cons_succ]
          refine wpAnyH_take (i := 15) (oi := ?_) (v := ?_) ?_ (by kernel_rfl) (by kernel_rfl) (by kernel_rfl) ?_ (Or.inl ⟨?_, ?_⟩) (by assumption) ?_
          rotate_left 2
          · (simp only [List.getElem?_toArray, List.getElem?_cons_succ, List.getElem?_cons_zero]; rfl)
          · exact fun _ _ _ h => h
          · rfl
          · (intro w hSw; (try dsimp only at hSw); go_simp; try with_reducible rfl)
          simp only [Act.put, List.setIfInBounds_toArray, List.set_cons_zero, List.set_cons_succ]
          refine wpAnyH_done (by kernel_rfl) ?_ _
          go_wp2_with fail
          go_ret2
          exact ⟨lo, true, by first | rfl | (go_simp; simp [g2]), fun _ => HT2.out, fun h => (by cases h), HB0.out.trans (hB.mono HB0.out.size)⟩
        · have HF2 := Lib.hid (HF.out hcc)
          have g2 : (cc == 0) = false := by simpa using hcc
          clear hcc
          go_wp2_with fail
          replace hB := below_drewN hB 1
          obtain ⟨q0, q1, hsz⟩ := HK.out _ hB; obtain ⟨p0, p1, p2, p3, p4, hbw⟩ := HPc.out _ hB
          refine wp_region_held_drew (S := fun w' => w'.cell? ⟨b, o + lo * 5, none⟩ = some (.int .i64 ch) ∧ w'.cell? ⟨b, o + lo * 5 + 1, none⟩ = some (.int .i64 atr) ∧ w'.cell? ⟨b, o + lo * 5 + 2, none⟩ = some (.int .i64 pa) ∧ w'.cell? ⟨b, o + lo * 5 + 3, none⟩ = some (.int .i64 le) ∧ w'.cell? ⟨b, o + lo * 5 + 4, none⟩ = some (.int .i64 pt) ∧ w'.cell? ⟨w.heap.size, 0, none⟩ = some (.int .i64 d) ∧ w'.cell? ⟨w.heap.size, 1, none⟩ = some (.int .i64 bb)) (by kernel_rfl) (by first | exact ⟨p0, p1, p2, p3, p4, q0, q1⟩) (fun hHeld => ?_)
          refine wpAnyH_take (i := 0) (oi := ?_) (v := ?_) ?_ (by kernel_rfl) (by kernel_rfl) (by kernel_rfl) ?_ (Or.inl ⟨?_, ?_⟩) (by assumption) ?_
          rotate_left 2
          · (simp only [List.getElem?_toArray, List.getElem?_cons_zero]; rfl)
          · exact fun _ _ _ h => h
          · rfl
          · (intro w hSw; (try dsimp only at hSw); go_simp; try with_reducible rfl)
          simp only [Act.put, List.setIfInBounds_toArray, List.set_cons_zero, List.set_cons_succ]
          refine wpAnyH_take (i := 1) (oi := ?_) (v := ?_) ?_ (by kernel_rfl) (by kernel_rfl) (by kernel_rfl) ?_ (Or.inl ⟨?_, ?_⟩) (by assumption) ?_
          rotate_left 2
          · (simp only [List.getElem?_toArray, List.getElem?_cons_succ, List.getElem?_cons_zero]; rfl)
          · exact fun _ _ _ h => h
          · rfl
          · (intro w hSw; (try dsimp only at hSw); go_simp; try with_reducible rfl)
          simp only [Act.put, List.setIfInBounds_toArray, List.set_cons_zero, List.set_cons_succ]
          refine wpAnyH_take (i := 2) (oi := ?_) (v := ?_) ?_ (by kernel_rfl) (by kernel_rfl) (by kernel_rfl) ?_ (Or.inl ⟨?_, ?_⟩) (by assumption) ?_
          rotate_left 2
          · (simp only [List.getElem?_toArray, List.getElem?_cons_succ, List.getElem?_cons_zero]; rfl)
          · exact fun _ _ _ h => h
          · rfl
          · (intro w hSw; (try dsimp only at hSw); go_simp; try with_reducible rfl)
          simp only [Act.put, List.setIfInBounds_toArray, List.set_cons_zero, List.set_cons_succ]
          refine wpAnyH_take (i := 3) (oi := ?_) (v := ?_) ?_ (by kernel_rfl) (by kernel_rfl) (by kernel_rfl) ?_ (Or.inl ⟨?_, ?_⟩) (by assumption) ?_
          rotate_left 2
          · (simp only [List.getElem?_toArray, List.getElem?_cons_succ, List.getElem?_cons_zero]; rfl)
          · exact fun _ _ _ h => h
          · rfl
          · (intro w hSw; (try dsimp only at hSw); go_simp; try with_reducible rfl)
          simp only [Act.put, List.setIfInBounds_toArray, List.set_cons_zero, List.set_cons_succ]
          refine wpAnyH_take (i := 4) (oi := ?_) (v := ?_) ?_ (by kernel_rfl) (by kernel_rfl) (by kernel_rfl) ?_ (Or.inl ⟨?_, ?_⟩) (by assumption) ?_
          rotate_left 2
          · (simp only [List.getElem?_toArray, List.getElem?_cons_succ, List.getElem?_cons_zero]; rfl)
          · exact fun _ _ _ h => h
          · rfl
          · (intro w hSw; (try dsimp only at hSw); go_simp; try with_reducible rfl)
          simp only [Act.put, List.setIfInBounds_toArray, List.set_cons_zero, List.set_cons_succ]
          refine wpAnyH_take (i := 5) (oi := ?_) (v := ?_) ?_ (by kernel_rfl) (by kernel_rfl) (by kernel_rfl) ?_ (Or.inl ⟨?_, ?_⟩) (by assumption) ?_
          rotate_left 2
          · (simp only [List.getElem?_toArray, List.getElem?_cons_succ, List.getElem?_cons_zero]; rfl)
          · exact fun _ _ _ h => h
          · rfl
          · (intro w hSw; (try dsimp only at hSw); go_simp; try with_reducible rfl)
          simp only [Act.put, List.setIfInBounds_toArray, List.set_cons_zero, List.set_cons_succ]
          refine wpAnyH_take (i := 6) (oi := ?_) (v := ?_) ?_ (by kernel_rfl) (by kernel_rfl) (by kernel_rfl) ?_ (Or.inl ⟨?_, ?_⟩) (by assumption) ?_
          rotate_left 2
          · (simp only [List.getElem?_toArray, List.getElem?_cons_succ, List.getElem?_cons_zero]; rfl)
          · exact fun _ _ _ h => h
          · rfl
          · (intro w hSw; (try dsimp only at hSw); go_simp; try with_reducible rfl)
          simp only [Act.put, List.setIfInBounds_toArray, List.set_cons_zero, List.set_cons_succ]
          refine wpAnyH_take (i := 7) (oi := ?_) (v := ?_) ?_ (by kernel_rfl) (by kernel_rfl) (by kernel_rfl) ?_ (Or.inl ⟨?_, ?_⟩) (by assumption) ?_
          rotate_left 2
          · (simp only [List.getElem?_toArray, List.getElem?_cons_succ, List.getElem?_cons_zero]; rfl)
          · exact fun _ _ _ h => h
          · rfl
          · (intro w hSw; (try dsimp only at hSw); go_simp; try with_reducible rfl)
          simp only [Act.put, List.setIfInBounds_toArray, List.set_cons_zero, List.set_cons_succ]
          refine wpAnyH_take (i := 8) (oi := ?_) (v := ?_) ?_ (by kernel_rfl) (by kernel_rfl) (by kernel_rfl) ?_ (Or.inl ⟨?_, ?_⟩) (by assumption) ?_
          rotate_left 2
          · (simp only [List.getElem?_toArray, List.getElem?_cons_succ, List.getElem?_cons_zero]; rfl)
          · exact fun _ _ _ h => h
          · rfl
          · (intro w hSw; (try dsimp only at hSw); go_simp; try with_reducible rfl)
          simp only [Act.put, List.setIfInBounds_toArray, List.set_cons_zero, List.set_cons_succ]
          refine wpAnyH_take (i := 9) (oi := ?_) (v := ?_) ?_ (by kernel_rfl) (by kernel_rfl) (by kernel_rfl) ?_ (Or.inl ⟨?_, ?_⟩) (by assumption) ?_
          rotate_left 2
          · (simp only [List.getElem?_toArray, List.getElem?_cons_succ, List.getElem?_cons_zero]; rfl)
          · exact fun _ _ _ h => h
          · rfl
          · (intro w hSw; (try dsimp only at hSw); go_simp; try with_reducible rfl)
          simp only [Act.put, List.setIfInBounds_toArray, List.set_cons_zero, List.set_cons_succ]
          refine wpAnyH_take (i := 10) (oi := ?_) (v := ?_) ?_ (by kernel_rfl) (by kernel_rfl) (by kernel_rfl) ?_ (Or.inl ⟨?_, ?_⟩) (by assumption) ?_
          rotate_left 2
          · (simp only [List.getElem?_toArray, List.getElem?_cons_succ, List.getElem?_cons_zero]; rfl)
          · exact fun _ _ _ h => h
          · rfl
          · (intro w hSw; (try dsimp only at hSw); go_simp; try with_reducible rfl)
          simp only [Act.put, List.setIfInBounds_toArray, List.set_cons_zero, List.set_cons_succ]
          refine wpAnyH_ready (rs := [11]) (by kernel_rfl) (by simp) ?_
          refine AllReadyH.cons rfl (fun K hK => ?_) AllReadyH.nil
          go_simp
          go_at_call 108; with_reducible refine (HMv.out _).mono ?_; rintro e w7 ⟨rfl, hb7⟩; replace hB := hB.trans (hb7.mono hB.size); clear hb7; obtain ⟨q0, q1, hsz⟩ := HK.out _ hB; obtain ⟨p0, p1, p2, p3, p4, hbw⟩ := HPc.out _ hB
          go_wp2_with fail
          refine hK.out _ _ (by first | exact ⟨p0, p1, p2, p3, p4, q0, q1⟩) (fun hHeld => ?_)
          clear hK K
          try simp only [Act.put, List.setIfInBounds_toArray, List.set_cons_zero, List.set_cons_succ]
          refine wpAnyH_take (i := 12) (oi := ?_) (v := ?_) ?_ (by kernel_rfl) (by kernel_rfl) (by kernel_rfl) ?_ (Or.inl ⟨?_, ?_⟩) (by assumption) ?_
          rotate_left 2
          · (simp only [List.getElem?_toArray, List.getElem?_cons_succ, List.getElem?_cons_zero]; rfl)
          · exact fun _ _ _ h => h
          · rfl
          · (intro w hSw; (try dsimp only at hSw); go_simp; try with_reducible rfl)
          simp only [Act.put, List.setIfInBounds_toArray, List.set_cons_zero, List.set_cons_succ]
          refine wpAnyH_take (i := 13) (oi := ?_) (v := ?_) ?_ (by kernel_rfl) (by kernel_rfl) (by kernel_rfl) ?_ (Or.inl ⟨?_, ?_⟩) (by assumption) ?_
          rotate_left 2
          · (simp only [List.getElem?_toArray, List.getElem?_cons_succ, List.getElem?_cons_zero]; rfl)
          · exact fun _ _ _ h => h
          · rfl
          · (intro w hSw; (try dsimp only at hSw); go_simp; try with_reducible rfl)
          simp only [Act.put, List.setIfInBounds_toArray, List.set_cons_zero, List.set_cons_succ]
          refine wpAnyH_take (i := 14) (oi := ?_) (v := ?_) ?_ (by kernel_rfl) (by kernel_rfl) (by kernel_rfl) ?_ (Or.inl ⟨?_, ?_⟩) (by assumption) ?_
          rotate_left 2
          · (simp only [List.getElem?_toArray, List.getElem?_cons_succ, List.getElem?_cons_zero]; rfl)
          · exact fun _ _ _ h => h
          · rfl
          · (intro w hSw; (try dsimp only at hSw); go_simp; try with_reducible rfl)
          simp only [Act.put, List.setIfInBounds_toArray, List.set_cons_zero, List.set_cons_succ]
          refine wpAnyH_take (i := 15) (oi := ?_) (v := ?_) ?_ (by kernel_rfl) (by kernel_rfl) (by kernel_rfl) ?_ (Or.inl ⟨?_, ?_⟩) (by assumption) ?_
          rotate_left 2
          · (simp only [List.getElem?_toArray, List.getElem?_cons_succ, List.getElem?_cons_zero]; rfl)
          · exact fun _ _ _ h => h
          · rfl
          · (intro w hSw; (try dsimp only at hSw); go_simp; try with_reducible rfl)
          simp only [Act.put, List.setIfInBounds_toArray, List.set_cons_zero, List.set_cons_succ]
          refine wpAnyH_done (by kernel_rfl) ?_ _
          go_wp2_with fail
          go_ret2
          exact ⟨lo, false, by first | rfl | (go_simp; simp [g2]), fun h => (by cases h), fun _ => HF2.out, HB0.out.trans (hB.mono HB0.out.size)⟩
      · have g1 : ¬ (lo : Int) < (l.length : Int) := by omega
        have HF := Lib.hid (show ∀ j (h : j < l.length), (l[j].ch, l[j].atr) ≠ (d, bb) from fun j hj he => by
          simp only [Prod.mk.injEq] at he
          have hz : cmpP l[j].ch l[j].atr d bb = 0 := cmpP_eq.2 he
          have := HLo.out j hj (by omega)
          omega)
        go_wp2_with fail
        replace hB := below_drewN hB 1
        refine wp_region_held_drew (S := fun _ => True) (by kernel_rfl) (by first | exact trivial) (fun hHeld => ?_)
        refine wpAnyH_take (i := 0) (oi := ?_) (v := ?_) ?_ (by kernel_rfl) (by kernel_rfl) (by kernel_rfl) ?_ (Or.inl ⟨?_, ?_⟩) (by assumption) ?_
        rotate_left 2
        · (simp only [List.getElem?_toArray, List.getElem?_cons_zero]; rfl)
        · exact fun _ _ _ h => h
        · rfl
        · (intro w hSw; (try dsimp only at hSw); go_simp; try with_reducible rfl)
        simp only [Act.put, List.setIfInBounds_toArray, List.set_cons_zero, List.set_cons_succ]
        refine wpAnyH_take (i := 1) (oi := ?_) (v := ?_) ?_ (by kernel_rfl) (by kernel_rfl) (by kernel_rfl) ?_ (Or.inl ⟨?_, ?_⟩) (by assumption) ?_
        rotate_left 2
        · (simp only [List.getElem?_toArray, List.getElem?_cons_succ, List.getElem?_cons_zero]; rfl)
        · exact fun _ _ _ h => h
        · rfl
        · (intro w hSw; (try dsimp only at hSw); go_simp; try with_reducible rfl)
        simp only [Act.put, List.setIfInBounds_toArray, List.set_cons_zero, List.set_cons_succ]
        refine wpAnyH_take (i := 2) (oi := ?_) (v := ?_) ?_ (by kernel_rfl) (by kernel_rfl) (by kernel_rfl) ?_ (Or.inl ⟨?_, ?_⟩) (by assumption) ?_
        rotate_left 2
        · (simp only [List.getElem?_toArray, List.getElem?_cons_succ, List.getElem?_cons_zero]; rfl)
        · exact fun _ _ _ h => h
        · rfl
        · (intro w hSw; (try dsimp only at hSw); go_simp; try with_reducible rfl)
        simp only [Act.put, List.setIfInBounds_toArray, List.set_cons_zero, List.set_cons_succ]
        refine wpAnyH_take (i := 3) (oi := ?_) (v := ?_) ?_ (by kernel_rfl) (by kernel_rfl) (by kernel_rfl) ?_ (Or.inl ⟨?_, ?_⟩) (by assumption) ?_
        rotate_left 2
        · (simp only [List.getElem?_toArray, List.getElem?_cons_succ, List.getElem?_cons_zero]; rfl)
        · exact fun _ _ _ h => h
        · rfl
        · (intro w hSw; (try dsimp only at hSw); go_simp; try with_reducible rfl)
        simp only [Act.put, List.setIfInBounds_toArray, List.set_cons_zero, List.set_cons_succ]
        refine wpAnyH_take (i := 4) (oi := ?_) (v := ?_) ?_ (by kernel_rfl) (by kernel_rfl) (by kernel_rfl) ?_ (Or.inl ⟨?_, ?_⟩) (by assumption) ?_
        rotate_left 2
        · (simp only [List.getElem?_toArray, List.getElem?_cons_succ, List.getElem?_cons_zero]; rfl)
        · exact fun _ _ _ h => h
        · rfl
        · (intro w hSw; (try dsimp only at hSw); go_simp; try with_reducible rfl)
        simp only [Act.put, List.setIfInBounds_toArray, List.set_cons_zero, List.set_cons_succ]
        refine wpAnyH_take (i := 5) (oi := ?_) (v := undef) ?_ (by kernel_rfl) (by kernel_rfl) (by kernel_rfl) ?_ (Or.inr ⟨?_, rfl⟩) (by assumption) ?_
        rotate_left 1
        · (simp only [List.getElem?_toArray, List.getElem?_cons_succ, List.getElem?_cons_zero]; rfl)
        · exact fun _ _ _ h => h
        · rfl
        simp only [Act.put, List.setIfInBounds_toArray, List.set_cons_zero, List.set_cons_succ]
        refine wpAnyH_take (i := 6) (oi := ?_) (v := undef) ?_ (by kernel_rfl) (by kernel_rfl) (by kernel_rfl) ?_ (Or.inr ⟨?_, rfl⟩) (by assumption) ?_
        rotate_left 1
        · (simp only [List.getElem?_toArray, List.getElem?_cons_succ, List.getElem?_cons_zero]; rfl)
        · exact fun _ _ _ h => h
        · rfl
        simp only [Act.put, List.setIfInBounds_toArray, List.set_cons_zero, List.set_cons_succ]
        refine wpAnyH_take (i := 7) (oi := ?_) (v := undef) ?_ (by kernel_rfl) (by kernel_rfl) (by kernel_rfl) ?_ (Or.inr ⟨?_, rfl⟩) (by assumption) ?_
        rotate_left 1
        · (simp only [List.getElem?_toArray, List.getElem?_cons_succ, List.getElem?_cons_zero]; rfl)
        · exact fun _ _ _ h => h
        · rfl
        simp only [Act.put, List.setIfInBounds_toArray, List.set_cons_zero, List.set_cons_succ]
        refine wpAnyH_take (i := 8) (oi := ?_) (v := undef) ?_ (by kernel_rfl) (by kernel_rfl) (by kernel_rfl) ?_ (Or.inr ⟨?_, rfl⟩) (by assumption) ?_
        rotate_left 1
        · (simp only [List.getElem?_toArray, List.getElem?_cons_succ, List.getElem?_cons_zero]; rfl)
        · exact fun _ _ _ h => h
        · rfl
        simp only [Act.put, List.setIfInBounds_toArray, List.set_cons_zero, List.set_cons_succ]
        refine wpAnyH_take (i := 9) (oi := ?_) (v := undef) ?_ (by kernel_rfl) (by kernel_rfl) (by kernel_rfl) ?_ (Or.inr ⟨?_, rfl⟩) (by assumption) ?_
        rotate_left 1
        · (simp only [List.getElem?_toArray, List.getElem?_cons_succ, List.getElem?_cons_zero]; rfl)
        · exact fun _ _ _ h => h
        · rfl
        simp only [Act.put, List.setIfInBounds_toArray, List.set_cons_zero, List.set_cons_succ]
        refine wpAnyH_take (i := 10) (oi := ?_) (v := undef) ?_ (by kernel_rfl) (by kernel_rfl) (by kernel_rfl) ?_ (Or.inr ⟨?_, rfl⟩) (by assumption) ?_
        rotate_left 1
        · (simp only [List.getElem?_toArray, List.getElem?_cons_succ, List.getElem?_cons_zero]; rfl)
        · exact fun _ _ _ h => h
        · rfl
        simp only [Act.put, List.setIfInBounds_toArray, List.set_cons_zero, List.set_cons_succ]
        refine wpAnyH_take (i := 11) (oi := ?_) (v := undef) ?_ (by kernel_rfl) (by kernel_rfl) (by kernel_rfl) ?_ (Or.inr ⟨?_, rfl⟩) (by assumption) ?_
        rotate_left 1
        · (simp only [List.getElem?_toArray, List.getElem?_cons_succ, List.getElem?_cons_zero]; rfl)
        · exact fun _ _ _ h => h
        · rfl
        simp only [Act.put, List.setIfInBounds_toArray, List.set_cons_zero, List.set_cons_succ]
        refine wpAnyH_take (i := 12) (oi := ?_) (v := undef) ?_ (by kernel_rfl) (by kernel_rfl) (by kernel_rfl) ?_ (Or.inr ⟨?_, rfl⟩) (by assumption) ?_
        rotate_left 1
        · (simp only [List.getElem?_toArray, List.getElem?_cons_succ, List.getElem?_cons_zero]; rfl)
        · exact fun _ _ _ h => h
        · rfl
        simp only [Act.put, List.setIfInBounds_toArray, List.set_cons_zero, List.set_cons_succ]
        refine wpAnyH_take (i := 13) (oi := ?_) (v := ?_) ?_ (by kernel_rfl) (by kernel_rfl) (by kernel_rfl) ?_ (Or.inl ⟨?_, ?_⟩) (by assumption) ?_
        rotate_left 2
        · (simp only [List.getElem?_toArray, List.getElem?_cons_succ, List.getElem?_cons_zero]; rfl)
        · exact fun _ _ _ h => h
        · rfl
        · (intro w hSw; (try dsimp only at hSw); go_simp; try with_reducible rfl)
        simp only [Act.put, List.setIfInBounds_toArray, List.set_cons_zero, List.set_cons_succ]
        refine wpAnyH_take (i := 14) (oi := ?_) (v := ?_) ?_ (by kernel_rfl) (by kernel_rfl) (by kernel_rfl) ?_ (Or.inl ⟨?_, ?_⟩) (by assumption) ?_
        rotate_left 2
        · (simp only [List.getElem?_toArray, List.getElem?_cons_succ, List.getElem?_cons_zero]; rfl)
        · exact fun _ _ _ h => h
        · rfl
        · (intro w hSw; (try dsimp only at hSw); go_simp; try with_reducible rfl)
        simp only [Act.put, List.setIfInBounds_toArray, List.set_cons_zero, List.set_cons_succ]
        refine wpAnyH_take (i := 15) (oi := ?_) (v := ?_) ?_ (by kernel_rfl) (by kernel_rfl) (by kernel_rfl) ?_ (Or.inl ⟨?_, ?_⟩) (by assumption) ?_
        rotate_left 2
        · (simp only [List.getElem?_toArray, List.getElem?_cons_succ, List.getElem?_cons_zero]; rfl)
        · exact fun _ _ _ h => h
        · rfl
        · (intro w hSw; (try dsimp only at hSw); go_simp; try with_reducible rfl)
        simp only [Act.put, List.setIfInBounds_toArray, List.set_cons_zero, List.set_cons_succ]
        refine wpAnyH_done (by kernel_rfl) ?_ _
        go_wp2_with fail
        go_ret2
        exact ⟨lo, false, rfl, fun h => (by cases h), fun _ => HF.out, HB0.out.trans (hB.mono HB0.out.size)⟩
end Go.Proofs.YtbhkfemebionnaaGreatDoor
