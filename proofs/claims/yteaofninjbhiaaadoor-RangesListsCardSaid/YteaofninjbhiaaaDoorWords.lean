/- Words on memory that all texts of this seat share: a slice that reads as a list of cells, and how that is kept. No program in sight. -/
import Derived.WalkKit
import Derived.Lib.Hide
import Derived.Deep.OwnRows
import Derived.Deep.Draws
import Derived.Deep.AppendLies
import Derived.Maps.AppendAt
namespace Go.Proofs.YteaofninjbhiaaaDoor
open Go.RowKit

/-- the slice with address A and n elements of z cells each holds the cells xs, and lies in the heap of w -/
def Sl (w : World) (z : Nat) (A : Option Addr) (n : Nat) (xs : List Value) : Prop :=
  xs.length = n * z ∧ (0 < n → ∃ b o, A = some ⟨b, o, none⟩ ∧ b < w.heap.size ∧ ∀ j u, xs[j]? = some u → w.cell? ⟨b, o + j, none⟩ = some u)

section
variable {w w' : World} {z n : Nat} {A : Option Addr} {xs : List Value}
theorem Sl.nil (w : World) (z : Nat) (A : Option Addr) : Sl w z A 0 [] := ⟨by simp, fun h => absurd h (by omega)⟩
theorem Sl.keep (h : Sl w z A n xs) (hs : w.heap.size ≤ w'.heap.size) (hk : ∀ b o, b < w.heap.size → w'.cell? ⟨b, o, none⟩ = w.cell? ⟨b, o, none⟩) : Sl w' z A n xs :=
  ⟨h.1, fun hn => by
    obtain ⟨b, o, e, hb, hc⟩ := h.2 hn
    exact ⟨b, o, e, by omega, fun j u hu => (hk b _ hb).trans (hc j u hu)⟩⟩
theorem Sl.below (h : Sl w z A n xs) (hb : Below w.heap.size w w') : Sl w' z A n xs := h.keep hb.size fun b o hlt => hb.cell (p := ⟨b, o, none⟩) hlt
theorem Sl.of_own {base : Nat} {e : TypeId} {c : Nat} (h : w.ownsRow base e z (.slice A n c) n xs) : Sl w z A n xs := by
  refine ⟨h.1, fun hn => ?_⟩
  obtain ⟨g, cap, hv, _, hlt⟩ := h.form hn
  have hA : A = some ⟨g, 0, none⟩ := by injection hv
  subst hA
  refine ⟨g, 0, rfl, hlt, fun j u hu => ?_⟩
  have := h.cells (g := g) rfl j u hu
  unfold Addr.add at this
  by_cases hj : j = 0
  · subst hj; simpa using this
  · simpa [hj] using this
end
theorem bcell {W w1 : World} (hb : Below W.heap.size W w1) : (∀ b o, b < W.heap.size → w1.cell? ⟨b, o, none⟩ = W.cell? ⟨b, o, none⟩) ∧ (∀ b o, b < W.heap.size → w1.frozen? ⟨b, o, none⟩ = W.frozen? ⟨b, o, none⟩) :=
  ⟨fun b o h => hb.cell (p := ⟨b, o, none⟩) h, fun b o h => hb.frozen (p := ⟨b, o, none⟩) h⟩
theorem below_drewN {B : Nat} {a w : World} (h : Below B a w) (n : Nat) : Below B a (w.drewN n) := ⟨h.os, h.tape, h.output, h.size, h.block⟩
theorem ret_i64 {a b : Int} (h : a = b) : Ending.returned (.int .i64 a) = .returned (.int .i64 b) := by rw [h]
theorem ret_bool {a b : Bool} (h : a = b) : Ending.returned (.bool a) = .returned (.bool b) := by rw [h]

/-! ranges -/
def rv (l : List (Int × Int)) : List Value := l.flatMap fun r => [.int .i64 r.1, .int .i64 r.2]
theorem rv_cons (r : Int × Int) (l : List (Int × Int)) : rv (r :: l) = .int .i64 r.1 :: .int .i64 r.2 :: rv l := rfl
theorem rv_append (l m : List (Int × Int)) : rv (l ++ m) = rv l ++ rv m := by simp [rv]
theorem rv_length (l : List (Int × Int)) : (rv l).length = l.length * 2 := by
  induction l with
  | nil => rfl
  | cons r l ih => rw [rv_cons]; simp [ih]; omega
theorem rv_at : ∀ (l : List (Int × Int)) (k : Nat) (hk : k < l.length), (rv l)[k * 2]? = some (.int .i64 l[k].1) ∧ (rv l)[k * 2 + 1]? = some (.int .i64 l[k].2)
  | r :: l, 0, _ => ⟨rfl, rfl⟩
  | r :: l, k + 1, hk => by
    have := rv_at l k (by simpa using hk)
    rw [rv_cons, show (k + 1) * 2 = k * 2 + 1 + 1 from by omega]
    simpa using this
theorem rv_one (l : List (Int × Int)) : ∀ u ∈ rv l, u.oneCell' = true := by
  intro u hu
  simp only [rv, List.mem_flatMap] at hu
  obtain ⟨r, _, h⟩ := hu
  simp at h
  rcases h with rfl | rfl <;> rfl
/-- a slice that holds ranges -/
def Rs (w : World) (A : Option Addr) (n : Nat) (l : List (Int × Int)) : Prop := n = l.length ∧ Sl w 2 A n (rv l)
theorem Rs.below {w w' : World} {A : Option Addr} {n : Nat} {l : List (Int × Int)} (h : Rs w A n l) (hb : Below w.heap.size w w') : Rs w' A n l := ⟨h.1, h.2.below hb⟩
theorem Rs.at_ {w : World} {A : Option Addr} {n : Nat} {l : List (Int × Int)} (h : Rs w A n l) {k : Nat} (hk : k < l.length) :
    ∃ b o, A = some ⟨b, o, none⟩ ∧ b < w.heap.size ∧ ∀ j (hj : j < l.length), w.cell? ⟨b, o + j * 2, none⟩ = some (.int .i64 l[j].1) ∧ w.cell? ⟨b, o + j * 2 + 1, none⟩ = some (.int .i64 l[j].2) := by
  obtain ⟨b, o, e, hb, hc⟩ := h.2.2 (by have := h.1; omega)
  refine ⟨b, o, e, hb, fun j hj => ?_⟩
  have ⟨h1, h2⟩ := rv_at l j hj
  exact ⟨hc _ _ h1, by have := hc _ _ h2; rwa [← Nat.add_assoc] at this⟩
theorem Rs.at1 {w : World} {A : Option Addr} {n : Nat} {l : List (Int × Int)} (h : Rs w A n l) {k : Nat} (hk : k < l.length) :
    ∃ b o, A = some ⟨b, o, none⟩ ∧ b < w.heap.size ∧ w.cell? ⟨b, o + k * 2, none⟩ = some (.int .i64 l[k].1) ∧ w.cell? ⟨b, o + k * 2 + 1, none⟩ = some (.int .i64 l[k].2) := by
  obtain ⟨b, o, e, hb, hc⟩ := h.at_ hk
  exact ⟨b, o, e, hb, hc k hk⟩
theorem Rs.at2 {w : World} {A : Option Addr} {n : Nat} {l : List (Int × Int)} (h : Rs w A n l) {k : Nat} (hk : k + 1 < l.length) :
    ∃ b o, A = some ⟨b, o, none⟩ ∧ b < w.heap.size ∧ w.cell? ⟨b, o + k * 2 + 1, none⟩ = some (.int .i64 (l[k]'(by omega)).2) ∧
      w.cell? ⟨b, o + (k + 1) * 2, none⟩ = some (.int .i64 l[k + 1].1) ∧ w.cell? ⟨b, o + (k + 1) * 2 + 1, none⟩ = some (.int .i64 l[k + 1].2) := by
  obtain ⟨b, o, e, hb, hc⟩ := h.at_ hk
  exact ⟨b, o, e, hb, (hc k (by omega)).2, hc (k + 1) hk⟩

/-! a slice that the call itself makes, one element after the other -/
theorem own_form {w : World} {base : Nat} {e : TypeId} {z : Nat} {v : Value} {n : Nat} {xs : List Value} (h : w.ownsRow base e z v n xs) : ∃ A c, v = .slice A n c := by
  rcases h.2 with ⟨rfl, rfl⟩ | ⟨g, cap, cur, rfl, _⟩
  · exact ⟨_, _, rfl⟩
  · exact ⟨_, _, rfl⟩
theorem below_push {base : Nat} {w0 w w' : World} {e : TypeId} {z : Nat} {v : Value} {n : Nat} {xs : List Value} (hb : Below base w0 w) (h0 : base ≤ w0.heap.size) (h : w.ownsRow base e z v n xs) (hg : w.grownBy w' v.ownBlock) : Below base w0 w' :=
  hb.grown hg (Nat.le_trans h0 hb.size) fun k hk => (h.lt k hk).1
theorem cells_new (w : World) (cs : List Value) (t : TypeId) : ∀ j u, cs[j]? = some u → (w.alloc (.cells cs.toArray t)).cell? ((⟨w.heap.size, 0, none⟩ : Addr).add j) = some u := by
  intro j u hj
  have : ((⟨w.heap.size, 0, none⟩ : Addr).add j) = ⟨w.heap.size, j, none⟩ := by unfold Addr.add; split <;> simp_all
  rw [this, World.cell?_alloc_new]
  simpa using hj
theorem wpList_push {P : Program} {w : World} {ops : Array Oper} {rest : List Oper} {o : Oper} {a : Act} {Q : Exit → Act → World → Prop} (hgd : o.guard = none) (s x : Operand) (t : TypeId)
    (ho : o.op = .call { callee := .builtin .append, args := #[s, x], argTypes := #[t, t] })
    (base : Nat) (e : TypeId) (z : Value) (size bytes : Nat) (ht : P.underlying t = some (.slice e)) (hinfo : (P.info? e).map (fun i => (i.zero, i.size, i.bytes)) = some (some z, size, bytes)) (hzs : z.cells.size = size) (hsz : 0 < size)
    (v : Value) (n : Nat) (xs : List Value) (hs : a.eval s = v) (hown : w.ownsRow base e size v n xs)
    (cs : List Value) (t2 : TypeId) (b2 c : Nat) (hx : a.eval x = .slice (some ⟨b2, 0, none⟩) 1 c) (hb2 : b2 = w.heap.size) (hl : cs.length = size) (h1 : ∀ u ∈ cs, u.oneCell' = true)
    (h63 : n + 1 ≤ maxLen) (hbytes : (n + 1) * bytes ≤ 140737488355328) (hbase : base ≤ w.heap.size)
    (h : ∀ g cap w', w'.ownsRow base e size (.slice (some ⟨g, 0, none⟩) (n + 1) cap) (n + 1) (xs ++ cs) → w.grownBy w' v.ownBlock → wpList P ops Q rest (a.put o.dst (.slice (some ⟨g, 0, none⟩) (n + 1) cap)) w') :
    wpList P ops Q (o :: rest) a (w.alloc (.cells cs.toArray t2)) := by
  obtain ⟨i, hi, hz, hsize, hby⟩ := info_parts hinfo
  subst hb2
  refine wpList_append_own (w := w.alloc (.cells cs.toArray t2)) hgd s x t ho base e i z size bytes ht hi hz hsize hby hzs hsz v n xs hs (hown.alloc _) ⟨w.heap.size, 0, none⟩ 1 c cs hx (by omega) (cells_new w cs t2) h1 h63 hbytes (by simp; omega) ?_
  intro v' w' hown' hg _
  obtain ⟨g, cap, hv, _⟩ := hown'.form (by omega)
  subst hv
  exact h g cap w' hown' ((World.grownBy_alloc w _ _).trans hg)
theorem two_one (x y : Int) : ∀ u ∈ [Value.int .i64 x, .int .i64 y], u.oneCell' = true := by simp; exact ⟨rfl, rfl⟩
theorem one_one (x : Int) : ∀ u ∈ [Value.int .i64 x], u.oneCell' = true := by simp; rfl
theorem rv_take_succ (l : List (Int × Int)) (k : Nat) (hk : k < l.length) : rv (l.take (k + 1)) = rv (l.take k) ++ [.int .i64 l[k].1, .int .i64 l[k].2] := by
  rw [List.take_succ_eq_append_getElem hk, rv_append]; rfl
/-- the call hands back ranges in new memory -/
def OutR (e : TypeId) (l : List (Int × Int)) (w : World) (r : Value) (w' : World) : Prop :=
  ∃ A c, r = .slice A l.length c ∧ w'.ownsRow w.heap.size e 2 (.slice A l.length c) l.length (rv l) ∧ Below w.heap.size w w'
theorem OutR.rs {e : TypeId} {l : List (Int × Int)} {w w' : World} {A : Option Addr} {n c : Nat} (h : w'.ownsRow w.heap.size e 2 (.slice A n c) n (rv l)) (hn : n = l.length) : Rs w' A n l := ⟨hn, Sl.of_own h⟩
/-- ints -/
def iv (l : List Int) : List Value := l.map (Value.int .i64)
theorem iv_one (l : List Int) : ∀ u ∈ iv l, u.oneCell' = true := ints_oneCell _ _
theorem iv_append (l m : List Int) : iv (l ++ m) = iv l ++ iv m := by simp [iv]
def Is (w : World) (A : Option Addr) (n : Nat) (l : List Int) : Prop := n = l.length ∧ Sl w 1 A n (iv l)
theorem Is.below {w w' : World} {A : Option Addr} {n : Nat} {l : List Int} (h : Is w A n l) (hb : Below w.heap.size w w') : Is w' A n l := ⟨h.1, h.2.below hb⟩
theorem Is.at1 {w : World} {A : Option Addr} {n : Nat} {l : List Int} (h : Is w A n l) {k : Nat} (hk : k < l.length) :
    ∃ b o, A = some ⟨b, o, none⟩ ∧ b < w.heap.size ∧ w.cell? ⟨b, o + k, none⟩ = some (.int .i64 l[k]) := by
  obtain ⟨b, o, e, hb, hc⟩ := h.2.2 (by have := h.1; omega)
  exact ⟨b, o, e, hb, hc k _ (by simp [iv, hk])⟩
def OutI (e : TypeId) (l : List Int) (w : World) (r : Value) (w' : World) : Prop :=
  ∃ A c, r = .slice A l.length c ∧ w'.ownsRow w.heap.size e 1 (.slice A l.length c) l.length (iv l) ∧ Below w.heap.size w w'

theorem own_mono {w : World} {base base' : Nat} {e : TypeId} {z : Nat} {v : Value} {n : Nat} {xs : List Value} (h : w.ownsRow base e z v n xs) (hb : base' ≤ base) : w.ownsRow base' e z v n xs := by
  refine ⟨h.1, ?_⟩
  rcases h.2 with h | ⟨g, cap, cur, hv, hg, r⟩
  · exact .inl h
  · exact .inr ⟨g, cap, cur, hv, Nat.le_trans hb hg, r⟩
theorem OutR.up {e : TypeId} {l : List (Int × Int)} {w w1 w' : World} {r : Value} (h : OutR e l w1 r w') (hb : Below w.heap.size w w1) : OutR e l w r w' := by
  obtain ⟨A, c, hr, ho, hw⟩ := h
  exact ⟨A, c, hr, own_mono ho hb.size, hb.trans (hw.mono hb.size)⟩
theorem OutI.up {e : TypeId} {l : List Int} {w w1 w' : World} {r : Value} (h : OutI e l w1 r w') (hb : Below w.heap.size w w1) : OutI e l w r w' := by
  obtain ⟨A, c, hr, ho, hw⟩ := h
  exact ⟨A, c, hr, own_mono ho hb.size, hb.trans (hw.mono hb.size)⟩
theorem OutR.nil {e : TypeId} {w w' : World} (hb : Below w.heap.size w w') : OutR e [] w (.slice none 0 0) w' := ⟨none, 0, rfl, World.ownsRow_nil _ _ _ _, hb⟩
theorem OutI.nil {e : TypeId} {w w' : World} (hb : Below w.heap.size w w') : OutI e [] w (.slice none 0 0) w' := ⟨none, 0, rfl, World.ownsRow_nil _ _ _ _, hb⟩
theorem Rs.single (w : World) (x y : Int) (t : TypeId) (b : Nat) (hb : b = w.heap.size) : Rs (w.alloc (.cells #[.int .i64 x, .int .i64 y] t)) (some ⟨b, 0, none⟩) 1 [(x, y)] := by
  subst hb
  refine ⟨rfl, rfl, fun _ => ⟨w.heap.size, 0, rfl, by simp, fun j u hu => ?_⟩⟩
  rw [Nat.zero_add, World.cell?_alloc_new]
  simpa [rv] using hu
end Go.Proofs.YteaofninjbhiaaaDoor
