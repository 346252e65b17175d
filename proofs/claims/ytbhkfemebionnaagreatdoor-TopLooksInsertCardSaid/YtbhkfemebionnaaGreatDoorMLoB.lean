/- Lemmas and contracts of functions, joined for the claim: LkFs, LkFp, LkLo, LkLs. -/
import Derived.Test.YtbhkfemebionnaaGreatDoorMLoA
import Derived.Test.YtbhkfemebionnaaGreatDoorMShelfB
namespace Go.Proofs.YtbhkfemebionnaaGreatDoor
open Go.RowKit

def shPq : Sh (Int × Int) := ⟨2, fun p => [.int .i64 p.1, .int .i64 p.2], fun _ => rfl, fun a => by simp; exact ⟨rfl, rfl⟩⟩
theorem infoPq : (Tryz.prog.info? 39).map (fun i => (i.zero, i.size, i.bytes)) = some (some (.agg #[.int .i64 0, .int .i64 0]), 2, 16) := by kernel_rfl
theorem ptq_one (x y : Int) : ∀ u ∈ [Value.int .i64 x, .int .i64 y], u.oneCell' = true := by simp; exact ⟨rfl, rfl⟩
theorem ptq_in {w : World} {B : Nat} {l : List (Int × Int)} (h : Cells w B (shPq.vs l)) : shPq.In w (some ⟨B, 0, none⟩) l.length l :=
  ⟨rfl, shPq.vs_length l, fun _ => ⟨B, 0, rfl, h.1, fun j u hu => by rw [Nat.zero_add]; exact h.at_ hu⟩⟩
theorem ownq_below {w w' : World} {base : Nat} {e : TypeId} {z : Nat} {v : Value} {n : Nat} {xs : List Value} (h : w.ownsRow base e z v n xs) (hb : Below w.heap.size w w') : w'.ownsRow base e z v n xs := by
  refine ⟨h.1, ?_⟩
  rcases h.2 with h | ⟨g, cap, cur, hv, hg, hc, r⟩
  · exact .inl h
  · exact .inr ⟨g, cap, cur, hv, hg, (hb.block g (Array.getElem?_eq_some_iff.1 hc).1).trans hc, r⟩
theorem MapAt.below2 {κ : Type} {enc : κ → Value} {w w' : World} {b : Nat} {L : List (κ × Value)} (h : MapAt enc w b L) (hb : Below w.heap.size w w') : MapAt enc w' b L := h.keep (hb.block b h.lt)
theorem map_ownq {κ : Type} {enc : κ → Value} {w w' : World} {b : Nat} {L : List (κ × Value)} (h : MapAt enc w b L) {base : Nat} {e : TypeId} {z : Nat} {v : Value} {n : Nat} {xs : List Value} (ho : w.ownsRow base e z v n xs) (hg : w.grownBy w' v.ownBlock) : MapAt enc w' b L := by
  refine h.grown hg fun he => ?_
  obtain ⟨es, cl, hb, -⟩ := h
  rcases ho.2 with ⟨rfl, _⟩ | ⟨g, cap, cur, rfl, _, hgg, _⟩
  · cases he
  · injection he with he
    subst he
    rw [hgg] at hb
    injection hb with hb
    cases hb
theorem own_mapq {κ : Type} {enc : κ → Value} {w w' : World} {b : Nat} {L : List (κ × Value)} (h : MapAt enc w b L) {base : Nat} {e : TypeId} {z : Nat} {v : Value} {n : Nat} {xs : List Value} (ho : w.ownsRow base e z v n xs) (hg : w.grownBy w' (some b)) : w'.ownsRow base e z v n xs := by
  obtain ⟨es, cl, hb, -⟩ := h
  refine ⟨ho.1, ?_⟩
  rcases ho.2 with h | ⟨g, cap, cur, hv, hgb, hc, r⟩
  · exact .inl h
  · refine .inr ⟨g, cap, cur, hv, hgb, (hg.block g (Array.getElem?_eq_some_iff.1 hc).1 fun he => ?_).trans hc, r⟩
    injection he with he
    subst he
    rw [hc] at hb
    injection hb with hb
    cases hb
def pmV (p : Int × Int) : Value := .agg #[.int .i64 p.1, .int .i64 p.2]
theorem eq_pm (a b : Int × Int) (w : World) : (Op.equal 39 (pmV a) (pmV b)).run Tryz.prog w = .ok (decide (a = b)) w := by
  obtain ⟨a1, a2⟩ := a
  obtain ⟨b1, b2⟩ := b
  have hf : (Tryz.prog.fieldsOf 39).toList.map (fun f => (f.name, f.type, f.offset)) = [("Channel", 3, 0), ("Attr", 3, 1)] := by kernel_rfl
  have hs : Tryz.prog.stoodInHeld 39 = false := by kernel_rfl
  have p0 : ∀ (x y : Int) w, (part 3 #[.int .i64 x, .int .i64 y] 0).run Tryz.prog w = .ok (.int .i64 x) w := fun x y w => by kernel_rfl
  have p1 : ∀ (x y : Int) w, (part 3 #[.int .i64 x, .int .i64 y] 1).run Tryz.prog w = .ok (.int .i64 y) w := fun x y w => by kernel_rfl
  have hi := Tryz.underlying3
  show (Op.equalIn (9999 + 1) 39 (.agg #[.int .i64 a1, .int .i64 a2]) (.agg #[.int .i64 b1, .int .i64 b2])).run Tryz.prog w = _
  rw [run_equalIn_struct w 9999 _ _ _ (by kernel_rfl) hs]
  have e : ∀ (d : Nat) (x y : Int) w, (Op.equalIn (d + 1) 3 (.int .i64 x) (.int .i64 y)).run Tryz.prog w = .ok (x == y) w := fun d x y w => by
    simp [Op.equalIn, run_underlying hi]
  have e9 : ∀ (x y : Int) w, (Op.equalIn 9999 3 (.int .i64 x) (.int .i64 y)).run Tryz.prog w = .ok (x == y) w := fun x y w => e 9998 x y w
  generalize (Tryz.prog.fieldsOf 39).toList = fs at *
  generalize hd : 9999 = d at *
  match fs, hf with
  | [], hf => simp at hf
  | [_], hf => simp at hf
  | _ :: _ :: _ :: _, hf => simp at hf
  | [f, g], hf =>
    simp only [List.map_cons, List.map_nil, List.cons.injEq, Prod.mk.injEq, and_true] at hf
    obtain ⟨⟨f1, f2, f3⟩, g1, g2, g3⟩ := hf
    clear e hd hi hs
    by_cases h1 : a1 = b1
    · subst h1
      by_cases h2 : a2 = b2
      · subst h2
        simp [Op.eqFields, f1, f2, f3, g1, g2, g3, Sem.run_bind, p0, p1, e9, Result.andThen]
      · simp [Op.eqFields, f1, f2, f3, g1, g2, g3, Sem.run_bind, p0, p1, e9, Result.andThen, h2]
    · simp [Op.eqFields, f1, f2, f3, Sem.run_bind, p0, e9, Result.andThen, h1]
theorem kPm : KeyTy Tryz.prog 39 pmV := KeyTy.of_eq (by rw [Tryz.underlying39]) (fun a e w => by kernel_rfl) eq_pm

section
open Go.Sort

abbrev Pq := {p : Int × Int // parOK p.1 p.2}
instance : Inhabited Pq := ⟨⟨(1, 0), ⟨by decide, by decide, by decide, by decide⟩⟩⟩
def pqE (x : Pq) : List Value := shPq.cs x.1
def pqC (x y : Pq) : Int := cmpP x.1.1 x.1.2 y.1.1 y.1.2
set_option maxRecDepth 100000 in
theorem ncmpq_any (x y : Pq) (W : World) : Calls Tryz.prog 85 #[.agg (pqE x).toArray, .agg (pqE y).toArray] W fun e w' => e = .returned (.int .i64 (pqC x y)) ∧ ∃ q os', w' = grow (W.drewN q) os' := by
  obtain ⟨⟨c, a⟩, h1⟩ := x
  obtain ⟨⟨d, b⟩, h2⟩ := y
  show Calls Tryz.prog 85 #[.agg #[.int .i64 c, .int .i64 a], .agg #[.int .i64 d, .int .i64 b]] W fun e w' => e = .returned (.int .i64 (cmpP c a d b)) ∧ ∃ q os', w' = grow (W.drewN q) os'
  unfold parOK at h1 h2
  dsimp only at h1 h2
  have w1 : IntKind.i64.wrap (c - d) = c - d := IntWalk.i64_in _ (by omega)
  have w2 : IntKind.i64.wrap (a - b) = a - b := IntWalk.i64_in _ (by omega)
  clear h1 h2
  by_cases h : c = d
  · subst h
    have HE := Lib.hid (show cmpP c a c b = a - b by unfold cmpP; rw [if_pos rfl])
    go_enter Tryz.func85, Tryz.ntmps85
    go_wp2_with fail
    go_ret
    exact ⟨by rw [HE.out]; rfl, 0, _, by rw [alloc_eq_grow, alloc_eq_grow, grow_grow]; rfl⟩
  · have HE := Lib.hid (show cmpP c a d b = c - d by unfold cmpP; rw [if_neg h])
    have hb : (c != d) = true := by simpa using h
    go_enter Tryz.func85, Tryz.ntmps85
    go_wp2_with fail
    go_ret
    exact ⟨by rw [HE.out]; rfl, 0, _, by rw [alloc_eq_grow, alloc_eq_grow, grow_grow]; rfl⟩
theorem pqC_lt {x y : Pq} : ltOf pqC x y = ltQ x.1 y.1 := by
  unfold ltOf pqC ltQ
  exact decide_eq_decide.2 cmpP_lt
theorem pqC_swo : SWO (ltOf pqC) := by
  refine ⟨fun x => ?_, fun x y z h1 h2 => ?_, fun x y z h1 h2 => ?_⟩
  · rw [pqC_lt, ltQ_f]; omega
  · rw [pqC_lt, ltQ_t] at *; omega
  · rw [pqC_lt, ltQ_f] at *; omega
theorem pq_flat (l : List Pq) : l.flatMap pqE = shPq.vs (l.map Subtype.val) := by
  unfold Sh.vs
  rw [List.flatMap_map]
  rfl
theorem sortpm_any (g cap : Nat) (l : List (Int × Int)) (w : World) (hC : Cells w g (shPq.vs l)) (hr : ∀ p ∈ l, parOK p.1 p.2) (hn : l.length ≤ 1000000) :
    Calls Tryz.prog 84 #[.slice (some ⟨g, 0, none⟩) l.length cap, .func (.func 85) #[] #[]] w fun e w' => e = .returned (.tuple #[]) ∧ Cells w' g (shPq.vs (srtS l)) ∧ w.grownBy w' (some g) := by
  obtain ⟨L, hL⟩ : ∃ L : List Pq, L.map Subtype.val = l := ⟨l.attach.map fun x => ⟨x.1, hr x.1 x.2⟩, by rw [List.map_map]; exact List.attach_map_subtype_val l⟩
  subst hL
  have hk : ∀ x : Pq, (pqE x).length = 2 := fun x => rfl
  rw [← pq_flat] at hC
  have hH := holds_cells hk hC
  have hsz : L.toArray.size = (L.map Subtype.val).length := by simp
  rw [← hsz]
  have hc := Tryz.slices_SortFunc_f84 2 (fun w => by kernel_rfl) (fun w => by kernel_rfl) pqE hk (fun x v hv => shPq.one x.1 v hv) pqC pqC_swo 85 #[] g 0 cap L.toArray w (enters_of Tryz.func85 (by kernel_rfl) rfl) (fun _ _ _ _ x y => ncmpq_any x y _) hH hC.1 (by rw [hsz]; omega)
  refine hc.mono fun e w' ⟨he, d', n, os, hp, hs, hw⟩ => ⟨he, ?_, ?_⟩
  · have e1 : d'.toList.map Subtype.val = srtS (L.map Subtype.val) := by
      refine srt_of (by simpa using (perm_of hp).map Subtype.val) ?_
      have := sorted_of hp.1.symm hs
      rw [List.pairwise_map]
      exact this.imp fun {x y} h => by rw [pqC_lt] at h; exact h
    rw [← e1, ← pq_flat, hw]
    refine cells_holds hk (holds_sortK hH hC.1 hp.1) ?_
    exact Nat.lt_of_lt_of_le hC.1 (grownBy_sortK d').size
  · rw [hw]
    exact grownBy_sortK d'
theorem sortpm_none (w : World) : Calls Tryz.prog 84 #[.slice none 0 0, .func (.func 85) #[] #[]] w fun e w' => e = .returned (.tuple #[]) ∧ w' = w :=
  Tryz.slices_SortFunc_none_f84 (α := Unit) none 0 _ w
end
end Go.Proofs.YtbhkfemebionnaaGreatDoor

namespace Go.Proofs.YtbhkfemebionnaaGreatDoor
open Go.RowKit

def pmM (m : Mv) : Int × Int := (m.ch, m.atr)
theorem psS_cons (x : CV) (X : List CV) : psS ((x :: X).map CV.sk) = x.ms.map pmM ++ psS (X.map CV.sk) := by
  simp [psS, CV.sk, Mv.q, pmM, Function.comp_def]
theorem psS_len {X : List CV} (h : ∀ x ∈ X, MvsOK x.ms) : (psS (X.map CV.sk)).length ≤ 128 * X.length := by
  induction X with
  | nil => simp [psS]
  | cons x X ih =>
    have h1 := (h x (List.mem_cons_self ..)).few
    have h2 := ih (fun y hy => h y (List.mem_cons_of_mem _ hy))
    rw [psS_cons, List.length_append, List.length_map, List.length_cons]
    omega
theorem psS_snoc (X : List CV) (x : CV) : psS ((X ++ [x]).map CV.sk) = psS (X.map CV.sk) ++ x.ms.map pmM := by
  simp [psS, CV.sk, Mv.q, pmM, Function.comp_def]
theorem psS_ok {X : List CV} (h : ∀ x ∈ X, MvsOK x.ms) : ∀ p ∈ psS (X.map CV.sk), parOK p.1 p.2 := by
  induction X with
  | nil => intro p hp; simp [psS] at hp
  | cons x X ih =>
    intro p hp
    rw [psS_cons] at hp
    rcases List.mem_append.1 hp with hp | hp
    · obtain ⟨m, hm, rfl⟩ := List.mem_map.1 hp
      exact ((h x (List.mem_cons_self ..)).ok m hm).1
    · exact ih (fun y hy => h y (List.mem_cons_of_mem _ hy)) p hp

def dX (X : List CV) (k : Nat) : List (Int × Int) := ddL (psS ((X.take k).map CV.sk))
def dY (X : List CV) (k : Nat) (ms : List Mv) (j : Nat) : List (Int × Int) := ddL (psS ((X.take k).map CV.sk) ++ (ms.take j).map pmM)
theorem dY_zero (X : List CV) (k : Nat) (ms : List Mv) : dY X k ms 0 = dX X k := by unfold dY dX; simp
theorem dY_all {X : List CV} {k : Nat} (hk : k < X.length) : dY X k X[k].ms X[k].ms.length = dX X (k + 1) := by
  unfold dY dX
  rw [List.take_length, List.take_succ_eq_append_getElem hk, psS_snoc]
theorem dY_step {X : List CV} {k : Nat} {ms : List Mv} {j : Nat} (hj : j < ms.length) : dY X k ms (j + 1) = addD (dY X k ms j) (ms[j].ch, ms[j].atr) := by
  unfold dY
  rw [List.take_succ_eq_append_getElem hj, List.map_append, ← List.append_assoc]
  exact ddL_snoc _ _
theorem dY_len {X : List CV} (h : ∀ x ∈ X, MvsOK x.ms) {k : Nat} {ms : List Mv} (hm : MvsOK ms) (j : Nat) : (dY X k ms j).length ≤ 128 * X.length + 128 := by
  have h1 := dd_len (psS ((X.take k).map CV.sk) ++ (ms.take j).map pmM)
  have h2 := psS_len (X := X.take k) (fun x hx => h x (List.mem_of_mem_take hx))
  have h3 := hm.few
  rw [List.length_append, List.length_map, List.length_take] at h1
  rw [List.length_take] at h2
  unfold dY
  omega
theorem dX_len {X : List CV} (h : ∀ x ∈ X, MvsOK x.ms) (k : Nat) : (dX X k).length ≤ 128 * X.length := by
  have h1 := dd_len (psS ((X.take k).map CV.sk))
  have h2 := psS_len (X := X.take k) (fun x hx => h x (List.mem_of_mem_take hx))
  rw [List.length_take] at h2
  unfold dX
  omega
theorem dX_ok {X : List CV} (h : ∀ x ∈ X, MvsOK x.ms) (k : Nat) : ∀ p ∈ dX X k, parOK p.1 p.2 := fun p hp =>
  psS_ok (X := X.take k) (fun x hx => h x (List.mem_of_mem_take hx)) p (dd_mem _ _ hp)
theorem dX_full (X : List CV) : srtS (dX X X.length) = fpS (X.map CV.sk) := by unfold dX fpS; rw [List.take_length]

set_option maxRecDepth 100000 in
set_option maxHeartbeats 16000000 in
theorem nfoot_any (no pri : Int) (A : Option Addr) (n c : Nat) (X : List CV) (w : World) (hX : InC w A n X) (hok : ∀ x ∈ X, MvsOK x.ms) (hlen : X.length ≤ 1000) :
    Calls Tryz.prog 60 #[.agg #[.int .i64 no, .int .i64 pri, .slice A n c]] w fun e w' => ∃ A' c', e = .returned (.slice A' (fpS (X.map CV.sk)).length c') ∧ shPq.In w' A' (fpS (X.map CV.sk)).length (fpS (X.map CV.sk)) ∧ Below w.heap.size w w' := by
  have hn2 : n = X.length := hX.len
  subst hn2
  have hfl0 := dX_full X
  generalize fpS (X.map CV.sk) = F at *
  have HFl0 := Lib.hid hfl0
  clear hfl0
  obtain ⟨W, hW⟩ : ∃ W, W = w.alloc (.cells #[.int .i64 no, .int .i64 pri, .slice A X.length c] 24) := ⟨_, rfl⟩
  have hB0 : Below w.heap.size w W := by rw [hW]; exact (Below.refl _ _).alloc (Nat.le_refl _) _
  obtain ⟨V, hV⟩ : ∃ V, V = W.alloc (.map #[] 0) := ⟨_, rfl⟩
  have hBV : Below W.heap.size W V := by rw [hV]; exact (Below.refl _ _).alloc (Nat.le_refl _) _
  have hWz : W.heap.size = w.heap.size + 1 := by rw [hW]; simp
  have HZ := Lib.hid hWz
  have HM0 := Lib.hid (show MapAt pmV V (w.heap.size + 1) (setL []) by rw [hV, ← hWz]; exact MapAt.made pmV W)
  have hcW : Cells W w.heap.size [.int .i64 no, .int .i64 pri, .slice A X.length c] := by rw [hW]; exact Cells.fresh w [.int .i64 no, .int .i64 pri, .slice A X.length c] _
  have hcV := hcW.below hBV hcW.1
  have c2 := hcV.at_ (j := 2) rfl
  rw [hV, hW] at c2
  have HX := Lib.hid (hX.below hB0)
  have HOk := Lib.hid hok
  have HLen := Lib.hid hlen
  have HW := Lib.hid hW
  have HV := Lib.hid hV
  have HB0 := Lib.hid hB0
  have HBV := Lib.hid hBV
  clear hX hok hW hV hB0 hBV hcW hcV hWz
  have hmm : ∀ w, (Instr.makeMap 127 none).run Tryz.prog w = .ok (.map (some w.heap.size)) (w.alloc (.map #[] 0)) := fun w => run_makeMap _ w
  go_enter Tryz.func60, Tryz.ntmps60
  go_wp2_with fail
  rw [← HW.out, ← HV.out]
  clear c2
  go_loopw [4, 13] (fun vo iv wr => ∃ k : Nat, k ≤ X.length ∧ iv = .int .i64 k ∧ wr.ownsRow W.heap.size 39 2 vo (dX X k).length (shPq.vs (dX X k)) ∧ MapAt pmV wr (w.heap.size + 1) (setL (dX X k)) ∧ Below W.heap.size W wr) (fun _ iv _ => X.length - (intOf iv).toNat)
  case atStart => exact ⟨0, Nat.zero_le _, rfl, World.ownsRow_nil _ _ _ _, HM0.out, HBV.out⟩
  case round =>
    obtain ⟨k, hk, rfl, hown, hM, hB⟩ := hrel
    obtain ⟨Ao, co, rfl⟩ := own_form hown
    by_cases hlt : k < X.length
    · obtain ⟨b, o, rfl, hbl, hcell⟩ := cu_at HX.out (by omega)
      have hck := hcell k hlt
      have i0 : (0 : Int) ≤ (k : Int) := by omega
      have i1 : (k : Int) < (X.length : Int) := by omega
      have w0 : IntKind.i64.wrap ((k : Int) + 1) = (k : Int) + 1 := IntWalk.i64_in _ (by omega)
      have hmi := (HX.out.2 X[k] (List.getElem_mem hlt)).1
      have hmo := HOk.out X[k] (List.getElem_mem hlt)
      have hda := dY_all hlt
      have hdl := fun j => dY_len (k := k) HOk.out hmo j
      generalize X[k] = x at *
      obtain ⟨⟨num, lab, MA, mn, mc, PA, pn, pc, blk, mrk, fol, lnk, lps⟩, ms, ts⟩ := x
      obtain ⟨q0, q1, q2, q3, q4, q5, q6, q7, q8⟩ := hck
      dsimp only at hmi hmo hda hdl q0 q1 q2 q3 q4 q5 q6 q7 q8
      have hmn : mn = ms.length := hmi.1
      subst hmn
      have p0 := (hB.cell (p := ⟨b, o + k * 9, none⟩) hbl).trans q0
      have p1 := (hB.cell (p := ⟨b, o + k * 9 + 1, none⟩) hbl).trans q1
      have p2 := (hB.cell (p := ⟨b, o + k * 9 + 2, none⟩) hbl).trans q2
      have p3 := (hB.cell (p := ⟨b, o + k * 9 + 3, none⟩) hbl).trans q3
      have p4 := (hB.cell (p := ⟨b, o + k * 9 + 4, none⟩) hbl).trans q4
      have p5 := (hB.cell (p := ⟨b, o + k * 9 + 5, none⟩) hbl).trans q5
      have p6 := (hB.cell (p := ⟨b, o + k * 9 + 6, none⟩) hbl).trans q6
      have p7 := (hB.cell (p := ⟨b, o + k * 9 + 7, none⟩) hbl).trans q7
      have p8 := (hB.cell (p := ⟨b, o + k * 9 + 8, none⟩) hbl).trans q8
      have hbw : b < wr.heap.size := Nat.lt_of_lt_of_le hbl hB.size
      obtain ⟨W5, hW5⟩ : ∃ W5, W5 = wr.alloc (.cells #[.string num, .string lab, .slice MA ms.length mc, .slice PA pn pc, .bool blk, .bool mrk, .int .i64 fol, .string lnk, .int .i64 lps] 34) := ⟨_, rfl⟩
      have hb5 : Below wr.heap.size wr W5 := by rw [hW5]; exact (Below.refl _ _).alloc (Nat.le_refl _) _
      have HO5 := Lib.hid (ownq_below hown hb5)
      have HM5 := Lib.hid (hM.below2 hb5)
      have HB5 := Lib.hid (hB.trans (hb5.mono hB.size))
      have HW5 := Lib.hid hW5
      have HMi := Lib.hid hmi
      have HDa := Lib.hid hda
      have HDl := Lib.hid hdl
      have HF := Lib.hid hmo.few
      clear hcell q0 q1 q2 q3 q4 q5 q6 q7 q8 hmi hmo hda hdl hW5 hb5 hown hM hB
      go_wp2_with fail
      rw [← HW5.out]
      go_loopw [4, 20] (fun vo iv w6 => ∃ j : Nat, j ≤ ms.length ∧ iv = .int .i64 j ∧ w6.ownsRow W.heap.size 39 2 vo (dY X k ms j).length (shPq.vs (dY X k ms j)) ∧ MapAt pmV w6 (w.heap.size + 1) (setL (dY X k ms j)) ∧ Below W.heap.size W w6) (fun _ iv _ => ms.length - (intOf iv).toNat)
      case atStart => exact ⟨0, Nat.zero_le _, rfl, by rw [dY_zero]; exact HO5.out, by rw [dY_zero]; exact HM5.out, HB5.out⟩
      case round =>
        rename World => w6
        obtain ⟨j, hj, rfl, hown6, hM6, hB6⟩ := hrel
        obtain ⟨Ao6, co6, rfl⟩ := own_form hown6
        have hdl6 := HDl.out j
        by_cases hlt2 : j < ms.length
        · obtain ⟨b2, o2, rfl, hbl2, hcell2⟩ := mv_at HMi.out (by omega)
          have hst := dY_step (X := X) (k := k) hlt2
          obtain ⟨r0, r1, r2, r3, r4⟩ := hcell2 j hlt2
          generalize dY X k ms j = DD at *
          generalize ms[j] = m at *
          obtain ⟨ch, atr, pa, le, pt⟩ := m
          dsimp only at r0 r1 r2 r3 r4 hst
          have i2 : (0 : Int) ≤ (j : Int) := by omega
          have i3 : (j : Int) < (ms.length : Int) := by omega
          have w1 : IntKind.i64.wrap ((j : Int) + 1) = (j : Int) + 1 := IntWalk.i64_in _ (by have := HF.out; omega)
          have p0 := (hB6.cell (p := ⟨b2, o2 + j * 5, none⟩) hbl2).trans r0
          have p1 := (hB6.cell (p := ⟨b2, o2 + j * 5 + 1, none⟩) hbl2).trans r1
          have p2 := (hB6.cell (p := ⟨b2, o2 + j * 5 + 2, none⟩) hbl2).trans r2
          have p3 := (hB6.cell (p := ⟨b2, o2 + j * 5 + 3, none⟩) hbl2).trans r3
          have p4 := (hB6.cell (p := ⟨b2, o2 + j * 5 + 4, none⟩) hbl2).trans r4
          have hbw2 : b2 < w6.heap.size := Nat.lt_of_lt_of_le hbl2 hB6.size
          have HMb := Lib.hid (fun (w' : World) (h : Below w6.heap.size w6 w') => hM6.below2 h)
          have HOb := Lib.hid (fun (w' : World) (h : Below w6.heap.size w6 w') => ownq_below hown6 h)
          have HBb := Lib.hid (fun (w' : World) (h : Below w6.heap.size w6 w') => hB6.trans (h.mono hB6.size))
          have HLq := Lib.hid (And.intro hdl6 HLen.out)
          have HMl := Lib.hid hM6.lt
          have HB6s := Lib.hid hB6.size
          clear hcell2 r0 r1 r2 r3 r4 hown6 hM6 hdl6 hB6
          by_cases hin : (ch, atr) ∈ DD
          · have HSt := Lib.hid (hst.trans (addD_in hin))
            have HLV := Lib.hid (show lookV false (setL DD) (ch, atr) (.bool false) = .bool true by rw [lookV_set]; simp [hin])
            clear hst hin
            go_wp2_with (at_lookup; refine wpList_lookL _ rfl _ _ _ _ rfl _ _ Tryz.underlying127 pmV kPm (w.heap.size + 1) (setL DD) (ch, atr) rfl rfl (HMb.out _ (by (repeat' first | exact Below.refl _ _ | assumption | apply Below.drew | apply below_drewN | refine Below.alloc ?_ ?_ _ | refine Below.setCell ?_ ?_ _ | refine Below.trans ?_ (Below.mono ‹_› ?_) | omega | (simp; omega) | simp))) (.bool false) (by simp) ?_; rw [HLV.out])
            go_roundw
            case rel => exact ⟨j + 1, hlt2, by go_num, by rw [HSt.out]; exact HOb.out _ (by (repeat' first | exact Below.refl _ _ | assumption | apply Below.drew | apply below_drewN | refine Below.alloc ?_ ?_ _ | refine Below.setCell ?_ ?_ _ | refine Below.trans ?_ (Below.mono ‹_› ?_) | omega | (simp; omega) | simp)), by rw [HSt.out]; exact HMb.out _ (by (repeat' first | exact Below.refl _ _ | assumption | apply Below.drew | apply below_drewN | refine Below.alloc ?_ ?_ _ | refine Below.setCell ?_ ?_ _ | refine Below.trans ?_ (Below.mono ‹_› ?_) | omega | (simp; omega) | simp)), HBb.out _ (by (repeat' first | exact Below.refl _ _ | assumption | apply Below.drew | apply below_drewN | refine Below.alloc ?_ ?_ _ | refine Below.setCell ?_ ?_ _ | refine Below.trans ?_ (Below.mono ‹_› ?_) | omega | (simp; omega) | simp))⟩
            case measure => simp [intOf]; omega
          · have HSt := Lib.hid (show (dY X k ms (j + 1)).length = DD.length + 1 ∧ shPq.vs (dY X k ms (j + 1)) = shPq.vs DD ++ [.int .i64 ch, .int .i64 atr] ∧ setL (dY X k ms (j + 1)) = setL DD ++ [((ch, atr), .bool true)] from by
              rw [hst, addD_out hin, List.length_append, Sh.vs_append, setL_push]; exact ⟨rfl, rfl, rfl⟩)
            have HLV := Lib.hid (show lookV false (setL DD) (ch, atr) (.bool false) = .bool false by rw [lookV_set]; simp [hin])
            have HN := Lib.hid (show lookL (setL DD) (ch, atr) = none by rw [lookL_set, if_neg hin])
            obtain ⟨W7, hW7⟩ : ∃ W7, W7 = w6.alloc (.cells #[.int .i64 ch, .int .i64 atr, .int .i64 pa, .int .i64 le, .int .i64 pt] 43) := ⟨_, rfl⟩
            have hb7 : Below w6.heap.size w6 W7 := by rw [hW7]; exact (Below.refl _ _).alloc (Nat.le_refl _) _
            have HR7 := Lib.hid (show RowAt W7 w6.heap.size #[.int .i64 ch, .int .i64 atr, .int .i64 pa, .int .i64 le, .int .i64 pt] 43 by rw [hW7]; exact RowAt.fresh w6 _ _)
            have HM7 := Lib.hid (HMb.out _ hb7)
            have HO7 := Lib.hid (HOb.out _ hb7)
            have HB7 := Lib.hid (HBb.out _ hb7)
            have HW7 := Lib.hid hW7
            clear hst hin hW7 hb7
            have HAft := Lib.hid (show ∀ w8, MapAt pmV w8 (w.heap.size + 1) (setL DD ++ [((ch, atr), .bool true)]) → W7.grownBy w8 (some (w.heap.size + 1)) → RowAt w8 w6.heap.size #[.int .i64 ch, .int .i64 atr, .int .i64 pa, .int .i64 le, .int .i64 pt] 43 ∧ w8.ownsRow W.heap.size 39 2 (.slice Ao6 DD.length co6) DD.length (shPq.vs DD) ∧ Below W.heap.size W w8 from fun w8 hm8 hg8 => by
              have hne : w6.heap.size ≠ w.heap.size + 1 := by have := HMl.out; omega
              exact ⟨(hg8.block w6.heap.size HR7.out.lt (fun e => hne (by injection e))).trans HR7.out, own_mapq HM7.out HO7.out hg8, HB7.out.grown hg8 HB7.out.size (fun q e => by cases e; exact Nat.le_of_eq HZ.out)⟩)
            have hlD := HLq.out
            go_wp2_with (first | (at_lookup; refine wpList_lookL _ rfl _ _ _ _ rfl _ _ Tryz.underlying127 pmV kPm (w.heap.size + 1) (setL DD) (ch, atr) rfl rfl (HMb.out _ (by (repeat' first | exact Below.refl _ _ | assumption | apply Below.drew | apply below_drewN | refine Below.alloc ?_ ?_ _ | refine Below.setCell ?_ ?_ _ | refine Below.trans ?_ (Below.mono ‹_› ?_) | omega | (simp; omega) | simp))) (.bool false) (by simp) ?_; rw [HLV.out]) | (at_mapUpdate; rw [← HW7.out]; refine wpList_putL _ rfl _ _ _ _ rfl _ _ Tryz.underlying127 pmV kPm (w.heap.size + 1) (setL DD) (ch, atr) (.bool true) rfl rfl rfl HM7.out HN.out ?_; intro w8 hm8 hg8; obtain ⟨hR8, hown8, hB8⟩ := HAft.out w8 hm8 hg8; have HB8 := Lib.hid hB8; have HM8 := Lib.hid hm8; have y0 := hR8.cell (j := 0) (u := .int .i64 ch) rfl; have y1 := hR8.cell (j := 1) (u := .int .i64 atr) rfl; have hsz := hB8.size; clear hm8 hg8 hB8 hR8) | (at_builtin; refine wpList_push rfl _ _ _ rfl W.heap.size _ _ 2 16 Tryz.underlying99 infoPq rfl (by omega) _ DD.length (shPq.vs DD) rfl hown8 [.int .i64 ch, .int .i64 atr] _ _ _ rfl (by first | rfl | simp) rfl (ptq_one _ _) (by unfold maxLen; omega) (by omega) (by first | omega | (simp; omega) | simp) ?_; intro g cap w1 hown1 hg1))
            go_roundw
            case rel => exact ⟨j + 1, hlt2, by go_num, by rw [HSt.out.1, HSt.out.2.1]; exact hown1, by rw [HSt.out.2.2]; exact map_ownq HM8.out hown8 hg1, below_push HB8.out (Nat.le_refl _) hown8 hg1⟩
            case measure => simp [intOf]; omega
        · obtain rfl : j = ms.length := by omega
          have HO6 := Lib.hid hown6
          have HM6 := Lib.hid hM6
          have HB6 := Lib.hid hB6
          rw [HDa.out] at HO6 HM6
          clear hown6 hM6 hB6 hdl6
          go_wp2_with fail
          go_roundw
          case rel => exact ⟨k + 1, hlt, by go_num, by rw [← HDa.out] at *; exact HO6.out, HM6.out, HB6.out⟩
          case measure => simp [intOf]; omega
    · obtain rfl : k = X.length := by omega
      have hfl := HFl0.out
      have hdl := dX_len HOk.out X.length
      have hdo := dX_ok HOk.out X.length
      have HB := Lib.hid (HB0.out.trans (hB.mono HB0.out.size))
      clear HFl0
      generalize dX X X.length = DD at *
      rcases hown.2 with ⟨hv, hxs⟩ | ⟨g, cap, cur, hv, hg, hcur, -⟩
      · injection hv with e1 e2 e3
        subst e1 e3
        have h0 : DD = [] := by
          match DD, e2 with
          | [], _ => rfl
        subst h0
        have hF : F = [] := hfl.symm
        subst hF
        clear hfl hdl hdo hown hM hB hxs
        go_wp2_with fail
        refine (sortpm_none wr).mono ?_
        rintro e w4 ⟨rfl, rfl⟩
        go_wp2_with fail
        go_ret
        exact ⟨none, 0, rfl, Sh.In.nil _ _, HB.out⟩
      · injection hv with e1 e2 e3
        subst e1 e3
        have hcl := cells_ownG hown
        have HSo := Lib.hid (sortpm_any g co DD wr hcl hdo (by omega))
        have hFl : F.length = DD.length := by rw [← hfl]; exact (srt_perm DD).length_eq
        have HFl := Lib.hid hFl
        rw [hfl] at HSo
        have HG := Lib.hid hg
        have HBr := Lib.hid hB
        clear hfl hdl hdo hown hM hB hcur hcl hFl
        go_wp2_with fail
        refine HSo.out.mono ?_
        rintro e w4 ⟨rfl, hC4, hgr⟩
        have HC4 := Lib.hid hC4
        have HB4 := Lib.hid (HB0.out.trans ((HBr.out.grown hgr HBr.out.size (fun q e => by cases e; exact HG.out)).mono HB0.out.size))
        clear hC4 hgr
        go_wp2_with fail
        go_ret
        exact ⟨_, co, by rw [HFl.out]; rfl, ptq_in HC4.out, HB4.out⟩
end Go.Proofs.YtbhkfemebionnaaGreatDoor

namespace Go.Proofs.YtbhkfemebionnaaGreatDoor
open Go.RowKit

theorem infoEn : (Tryz.prog.info? 62).map (fun i => (i.zero, i.size, i.bytes)) = some (some (.agg #[.int .i64 0, .int .i64 0, .int .i64 0, .int .i64 0]), 4, 32) := by kernel_rfl
theorem enq_one (x y z u : Int) : ∀ v ∈ [Value.int .i64 x, .int .i64 y, .int .i64 z, .int .i64 u], v.oneCell' = true := by simp; exact ⟨rfl, rfl, rfl, rfl⟩
theorem pq_at {w : World} {A : Option Addr} {n : Nat} {l : List (Int × Int)} (h : shPq.In w A n l) (h0 : 0 < l.length) :
    ∃ b o, A = some ⟨b, o, none⟩ ∧ b < w.heap.size ∧ ∀ k (hk : k < l.length), w.cell? ⟨b, o + k * 2, none⟩ = some (.int .i64 l[k].1) ∧ w.cell? ⟨b, o + k * 2 + 1, none⟩ = some (.int .i64 l[k].2) := by
  obtain ⟨b, o, e, hb, hc⟩ := h.at_ h0
  exact ⟨b, o, e, hb, fun k hk => ⟨hc k hk 0 _ (by decide) rfl, hc k hk 1 _ (by decide) rfl⟩⟩
theorem rowq_own {w w1 : World} {Q base z n : Nat} {c : Array Value} {t e : TypeId} {v : Value} {xs : List Value} (hR : RowAt w Q c t) (ho : w.ownsRow base e z v n xs) (hne : t ≠ e) (hg : w.grownBy w1 v.ownBlock) : RowAt w1 Q c t := by
  refine (hg.block Q hR.lt fun h => ?_).trans hR
  rcases ho.2 with ⟨rfl, _⟩ | ⟨g, cap, cur, rfl, _, hgg, _⟩
  · cases h
  · injection h with h
    subst h
    have h' : w.heap[Q]? = some (.cells c t (0, 0)) := hR
    rw [hgg] at h'
    injection h' with h'
    injection h' with h1 h2 h3
    exact hne h2.symm
def enO (G : Int × Int → Int × Int) (p : Int × Int) : En := ⟨p.1, p.2, (G p).1, (G p).2⟩
set_option maxRecDepth 100000 in
set_option maxHeartbeats 16000000 in
theorem ntlook_any (no pri : Int) (A : Option Addr) (n c : Nat) (X : List CV) (K : Nat) (w : World) (hX : InC w A n X) (hok : ∀ x ∈ X, MvsOK x.ms) (hK : K ≤ X.length) (hlen : X.length ≤ 1000) :
    Calls Tryz.prog 31 #[.agg #[.int .i64 no, .int .i64 pri, .slice A n c], .int .i64 ((K : Int) - 1)] w fun e w' => ∃ r, e = .returned r ∧ shEn.Out 62 (lkS (X.map CV.sk) K) w r w' := by
  have hn2 : n = X.length := hX.len
  subst hn2
  have hfo : ∀ p ∈ fpS (X.map CV.sk), parOK p.1 p.2 := fun p hp => psS_ok hok p (fp_mem hp)
  have hfl : (fpS (X.map CV.sk)).length ≤ 128000 := by have h1 := fp_len (X.map CV.sk); have h2 := psS_len hok; omega
  obtain ⟨G, hG⟩ : ∃ G, G = vlS ((X.map CV.sk).take K).reverse := ⟨_, rfl⟩
  have hL : lkS (X.map CV.sk) K = (fpS (X.map CV.sk)).map (enO G) := by rw [hG]; rfl
  rw [hL]
  clear hL
  have HG := Lib.hid hG
  clear hG
  obtain ⟨W, hW⟩ : ∃ W, W = w.alloc (.cells #[.int .i64 no, .int .i64 pri, .slice A X.length c] 24) := ⟨_, rfl⟩
  have hB0 : Below w.heap.size w W := by rw [hW]; exact (Below.refl _ _).alloc (Nat.le_refl _) _
  have HRl := Lib.hid (show RowAt W w.heap.size #[.int .i64 no, .int .i64 pri, .slice A X.length c] 24 by rw [hW]; exact RowAt.fresh w _ _)
  have HX := Lib.hid (hX.below hB0)
  have HF := Lib.hid (nfoot_any no pri A X.length c X W (hX.below hB0) hok hlen)
  have HOk := Lib.hid hok
  have HK := Lib.hid hK
  have HLen := Lib.hid hlen
  have HW := Lib.hid hW
  have HB0 := Lib.hid hB0
  clear hX hok hK hW hB0 hlen
  generalize hFq : fpS (X.map CV.sk) = F at *
  clear hFq
  have HFo := Lib.hid hfo
  have HFl := Lib.hid hfl
  clear hfo hfl
  go_enter Tryz.func31, Tryz.ntmps31
  go_wp2_with fail
  rw [← HW.out]
  refine HF.out.mono ?_
  rintro e V1 ⟨Af, cf, rfl, hif, hbf⟩
  have HIf := Lib.hid hif
  have HBf := Lib.hid hbf
  clear hif hbf
  go_wp2_with fail
  go_loopw [5, 11] (fun vo iv wr => ∃ k : Nat, k ≤ F.length ∧ iv = .int .i64 k ∧ wr.ownsRow V1.heap.size 62 4 vo k (shEn.vs ((F.map (enO G)).take k)) ∧ Below V1.heap.size V1 wr) (fun _ iv _ => F.length - (intOf iv).toNat)
  case atStart => exact ⟨0, Nat.zero_le _, rfl, World.ownsRow_nil _ _ _ _, Below.refl _ _⟩
  case round =>
    obtain ⟨k, hk, rfl, hown, hB⟩ := hrel
    obtain ⟨Ao, co, rfl⟩ := own_form hown
    by_cases hlt : k < F.length
    · obtain ⟨b, o, rfl, hbl, hcell⟩ := pq_at HIf.out (by omega)
      obtain ⟨q0, q1⟩ := hcell k hlt
      have i0 : (0 : Int) ≤ (k : Int) := by omega
      have i1 : (k : Int) < (F.length : Int) := by omega
      have w0 : IntKind.i64.wrap ((k : Int) + 1) = (k : Int) + 1 := IntWalk.i64_in _ (by have := HFl.out; omega)
      have hst : shEn.vs ((F.map (enO G)).take (k + 1)) = shEn.vs ((F.map (enO G)).take k) ++ [.int .i64 F[k].1, .int .i64 F[k].2, .int .i64 (G F[k]).1, .int .i64 (G F[k]).2] := by
        rw [shEn.vs_take _ k (by rw [List.length_map]; exact hlt), List.getElem_map]; rfl
      have hpo := HFo.out F[k] (List.getElem_mem hlt)
      generalize shEn.vs ((F.map (enO G)).take k) = LV at *
      generalize F[k] = p at *
      obtain ⟨ch, atr⟩ := p
      dsimp only at q0 q1 hst hpo
      have p0 := (hB.cell (p := ⟨b, o + k * 2, none⟩) hbl).trans q0
      have p1 := (hB.cell (p := ⟨b, o + k * 2 + 1, none⟩) hbl).trans q1
      have hbw : b < wr.heap.size := Nat.lt_of_lt_of_le hbl hB.size
      obtain ⟨W3, hW3⟩ : ∃ W3, W3 = wr.alloc (.cells #[.int .i64 ch, .int .i64 atr] 39) := ⟨_, rfl⟩
      have hb3 : Below wr.heap.size wr W3.drew := by rw [hW3]; exact ((Below.refl _ _).alloc (Nat.le_refl _) _).drew
      have hRp : RowAt W3.drew wr.heap.size #[.int .i64 ch, .int .i64 atr] 39 := by rw [hW3]; exact RowAt.fresh wr _ _
      have hRl := ((HRl.out.below HBf.out HRl.out.lt).below hB (Nat.lt_of_lt_of_le HRl.out.lt HBf.out.size)).below hb3 (Nat.lt_of_lt_of_le HRl.out.lt (Nat.le_trans HBf.out.size hB.size))
      have hown3 := ownq_below hown hb3
      have hB3 := hB.trans (hb3.mono hB.size)
      have HVal := Lib.hid (fun V (h : Below V1.heap.size V1 V) => ntvalue_any no pri A X.length c X K ch atr V (HX.out.below (HBf.out.trans (h.mono HBf.out.size))) HOk.out HK.out hpo (by have := HLen.out; omega))
      rw [← HG.out] at HVal
      have HKc := Lib.hid (show ∀ V, RowAt V wr.heap.size #[.int .i64 ch, .int .i64 atr] 39 → RowAt V w.heap.size #[.int .i64 no, .int .i64 pri, .slice A X.length c] 24 → V.cell? ⟨wr.heap.size, 0, none⟩ = some (.int .i64 ch) ∧ V.cell? ⟨wr.heap.size, 1, none⟩ = some (.int .i64 atr) ∧ V.cell? ⟨w.heap.size, 0, none⟩ = some (.int .i64 no) ∧ V.cell? ⟨w.heap.size, 1, none⟩ = some (.int .i64 pri) ∧ V.cell? ⟨w.heap.size, 2, none⟩ = some (.slice A X.length c) from fun V h1 h2 => ⟨h1.cell rfl, h1.cell rfl, h2.cell rfl, h2.cell rfl, h2.cell rfl⟩)
      generalize G (ch, atr) = v at *
      obtain ⟨va, vb⟩ := v
      have HSt := Lib.hid hst
      have HW3 := Lib.hid hW3
      have hlk := HFl.out
      clear hcell q0 q1 hst hpo hW3 hb3 hown hB
      go_wp2_with fail
      rw [← HW3.out]
      go_region_held3 (fun w' => w'.cell? ⟨wr.heap.size, 0, none⟩ = some (.int .i64 ch) ∧ w'.cell? ⟨wr.heap.size, 1, none⟩ = some (.int .i64 atr) ∧ w'.cell? ⟨w.heap.size, 0, none⟩ = some (.int .i64 no) ∧ w'.cell? ⟨w.heap.size, 1, none⟩ = some (.int .i64 pri) ∧ w'.cell? ⟨w.heap.size, 2, none⟩ = some (.slice A X.length c)) (first | exact HKc.out _ hRp hRl | exact HKc.out _ (hRp.below ((Below.refl _ _).alloc (Nat.le_refl _) _) hRp.lt) (hRl.below ((Below.refl _ _).alloc (Nat.le_refl _) _) hRl.lt) | exact HKc.out _ (rowq_own hRp hown7 (by decide) hg1) (rowq_own hRl hown7 (by decide) hg1)) (first | (go_at_call 61; refine (HVal.out _ hB3).mono ?_; rintro e w7 ⟨rfl, hb7⟩; replace hB3 := hB3.trans (hb7.mono hB3.size); have hown7 := ownq_below hown3 hb7; replace hRp := hRp.below hb7 hRp.lt; replace hRl := hRl.below hb7 hRl.lt; have hsz := hB3.size; clear hb7) | ((refine step_push (by rfl) _ _ _ (by rfl) V1.heap.size _ _ 4 32 Tryz.underlying54 infoEn rfl (by omega) _ k LV (by rfl) hown7 [.int .i64 ch, .int .i64 atr, .int .i64 va, .int .i64 vb] _ _ _ (by rfl) (by first | rfl | simp) rfl (enq_one _ _ _ _) (by unfold maxLen; omega) (by omega) (by first | omega | (simp; omega) | simp) ?_; intro g cap w1 hown1 hg1)))
      go_wp2_with fail
      go_roundw
      case rel => exact ⟨k + 1, hlt, by go_num, by rw [HSt.out]; exact hown1, below_push hB3 (Nat.le_refl _) hown7 hg1⟩
      case measure => simp [intOf]; omega
    · obtain rfl : k = F.length := by omega
      have hL2 : (F.map (enO G)).length = F.length := List.length_map ..
      rw [List.take_of_length_le (by omega)] at hown
      have HB := Lib.hid (HB0.out.trans ((HBf.out.trans (hB.mono HBf.out.size)).mono HB0.out.size))
      have HO := Lib.hid (own_weak hown (Nat.le_trans HB0.out.size HBf.out.size))
      have HL2 := Lib.hid hL2
      clear hown hB hL2
      go_wp2_with fail
      go_ret
      exact ⟨_, rfl, Ao, co, by rw [HL2.out]; rfl, by rw [HL2.out]; exact HO.out, HB.out⟩
end Go.Proofs.YtbhkfemebionnaaGreatDoor

namespace Go.Proofs.YtbhkfemebionnaaGreatDoor
open Go.RowKit

theorem ok_ms {no pri : Int} {X : List CV} (h : LsOK no pri X) : ∀ x ∈ X, MvsOK x.ms := fun x hx => (h.ok x hx).ms
set_option maxRecDepth 100000 in
set_option maxHeartbeats 16000000 in
theorem ntLook_any (no pri : Int) (A : Option Addr) (n c : Nat) (X : List CV) (s : ByteArray) (w : World) (hX : InC w A n X) (hs : ∀ x ∈ X, x.fitS) (hok : LsOK no pri X) (h1 : s.size ≤ 9223372036854775807) (h2 : numE s.data.toList = 0) (k : Nat) (hin : idxOf (numQ s) X = (k : Int)) :
    Calls Tryz.prog 16 #[.agg #[.int .i64 no, .int .i64 pri, .slice A n c], .string s] w fun e w' => ∃ r, e = .returned (.tuple #[r, .int .i64 0]) ∧ shEn.Out 62 (lkS (X.map CV.sk) (k + 1)) w r w' := by
  have hn2 : n = X.length := hX.len
  subst hn2
  have hk : k < X.length := by have := idxOf_lt (p := numQ s) X; omega
  have hfw := hok.few
  obtain ⟨W, hW⟩ : ∃ W, W = w.alloc (.cells #[.int .i64 no, .int .i64 pri, .slice A X.length c] 24) := ⟨_, rfl⟩
  have hB0 : Below w.heap.size w W := by rw [hW]; exact (Below.refl _ _).alloc (Nat.le_refl _) _
  have HR := Lib.hid (show RowAt W w.heap.size #[.int .i64 no, .int .i64 pri, .slice A X.length c] 24 by rw [hW]; exact RowAt.fresh w _ _)
  have hP := ntplace_any no pri A X.length c X s W (hX.below hB0) hs hok h1 h2 (by omega) (by omega)
  rw [hin] at hP
  have HP := Lib.hid hP
  have HL := Lib.hid (fun V (h : Below W.heap.size W V) => ntlook_any no pri A X.length c X (k + 1) V (hX.below (hB0.trans (h.mono hB0.size))) (ok_ms hok) (by omega) (by omega))
  have HI := Lib.hid (show ((k + 1 : Nat) : Int) - 1 = (k : Int) by omega)
  rw [HI.out] at HL
  have HW := Lib.hid hW
  have HB0 := Lib.hid hB0
  clear hX hs hok h1 h2 hin hW hB0 hP hk hfw
  go_enter Tryz.func16, Tryz.ntmps16
  go_wp2_with fail
  rw [← HW.out]
  refine HP.out.mono ?_
  rintro e w1 ⟨rfl, hb⟩
  have hR := HR.out.below hb HR.out.lt
  have c0 := hR.cell (j := 0) (u := .int .i64 no) rfl
  have c1 := hR.cell (j := 1) (u := .int .i64 pri) rfl
  have c2 := hR.cell (j := 2) (u := .slice A X.length c) rfl
  have HB1 := Lib.hid hb
  clear hR hb
  go_wp2_with fail
  refine (HL.out _ HB1.out).mono ?_
  rintro e w2 ⟨r, rfl, ho⟩
  have HO := Lib.hid (ho.up (HB0.out.trans (HB1.out.mono HB0.out.size)))
  clear ho
  go_wp2_with fail
  go_ret2
  exact ⟨r, rfl, HO.out⟩

end Go.Proofs.YtbhkfemebionnaaGreatDoor
