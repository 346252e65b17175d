/- Lemmas and contracts of functions, joined for the claim: Open, OpenG, OpenCap, LkOp. -/
import Derived.Test.YtbhkfemebionnaaGreatDoorMWord
import Derived.Test.YtbhkfemebionnaaGreatDoorMZet
import Derived.SizedLaws
import Derived.Test.YtbhkfemebionnaaGreatDoorMPmB
namespace Go.Proofs.YtbhkfemebionnaaGreatDoor
open Go.ChangeShapes Go.WideShapes Go.ChangeAt Go.RowKit Go.Deep

section
variable {H : Type} {enc : TypeId × Value → H} {w : World} {base : Nat} {spare : Nat → Bool} {held : Bool}
theorem add_add' (a : Addr) (i j : Nat) : (a.add i).add j = a.add (i + j) := by simp [Go.Deep.add_add]
theorem open_rows {α : Type} (S : Sh α) {t e : TypeId} (ht : Tryz.prog.underlying t = some (.slice e)) (hz : Tryz.prog.cellsOf e = S.z) (hz0 : 0 < S.z) (d : α) (Good : α → Prop)
    (hel : ∀ fuel cs x, DataW.trod enc Tryz.prog w base spare held fuel e cs = some x → ∃ a, cs = S.cs a ∧ Good a)
    {fuel : Nat} {A : Option Addr} {n c : Nat} {x : DataW H × List MemPlace} (h : DataW.trod enc Tryz.prog w base spare held fuel t [.slice A n c] = some x) : ∃ l, S.In w A n l ∧ (∀ a ∈ l, Good a) ∧ n ≤ maxLen ∧ (n = 0 ∨ ∃ el sp, x.1 = .slice el sp ∧ n = el.length) := by
  rcases open_slice ht h with ⟨h1, _⟩ | ⟨a, len, cap, m, k, D, Pl, hcs, hb, hl, hm, hmm, hx, hi⟩
  · simp at h1
    obtain ⟨rfl, rfl, rfl⟩ := h1
    exact ⟨[], Sh.In.nil _ _, by simp, by simp, .inl rfl⟩
  · simp at hcs
    obtain ⟨rfl, rfl, rfl⟩ := hcs
    obtain ⟨l, h1, h2⟩ := Sh.In.of_cells (S := S) (w := w) (a := a) (len := n) Good hz0 (fun i hin => by
      obtain ⟨cs', hc, ht'⟩ := hi i (by rw [hmm]; split <;> omega)
      obtain ⟨_, hcl, hat⟩ := World.cells?_some hc
      obtain ⟨v, rfl, hg⟩ := hel _ _ _ ht'
      refine ⟨v, hg, fun j u hu => ?_⟩
      have hj : j < (S.cs v).length := (List.getElem?_eq_some_iff.1 hu).1
      rw [S.len] at hj
      have := hat j (by rw [hz]; exact hj)
      rw [add_add', hu, hz] at this
      exact this) d
    exact ⟨l, h1, h2, by omega, .inr ⟨_, _, by rw [hx], by simp⟩⟩

theorem trod_field {t : TypeId} {fs : Array Field} (ht : Tryz.prog.underlying t = some (.struct fs)) {fuel : Nat} {cs : List Value} {x : DataW H × List MemPlace} (h : DataW.trod enc Tryz.prog w base spare held fuel t cs = some x) :
    cs.length = Tryz.prog.cellsOf t ∧ ∀ (i : Nat) (ft : TypeId) (o : Nat), (fs.map fun f => (f.type, f.offset))[i]? = some (ft, o) → ∃ n y, DataW.trod enc Tryz.prog w base spare held n ft ((cs.drop o).take (Tryz.prog.cellsOf ft)) = some y := by
  obtain ⟨ys, n', hn', hy, hlen, hyl, hf⟩ := DataW.trod_struct ht h
  refine ⟨hlen, fun i ft o hi => ?_⟩
  simp at hi
  obtain ⟨q, hq, h1, h2⟩ := hi
  have hlt : i < ys.length := by rw [hyl]; exact (Array.getElem?_eq_some_iff.1 hq).1
  have := hf i q hq
  rw [h1, h2, List.getElem?_eq_getElem hlt] at this
  exact ⟨n', _, this⟩
end
theorem int_bd {x : Int} (h : (Lit.int .i64 x).wf = true) : -9223372036854775808 ≤ x ∧ x ≤ 9223372036854775807 := by
  simpa [Lit.wf, IntKind.min, IntKind.max, IntKind.bits, IntKind.signed] using h
end Go.Proofs.YtbhkfemebionnaaGreatDoor

namespace Go.Proofs.YtbhkfemebionnaaGreatDoor
open Go.ChangeShapes Go.WideShapes Go.ChangeAt Go.RowKit Go.Deep

def OkI (x : Int) : Prop := -9223372036854775808 ≤ x ∧ x ≤ 9223372036854775807
section
variable {H : Type} {enc : TypeId × Value → H} {w : World} {base : Nat} {spare : Nat → Bool} {held : Bool}
theorem cells3 {cs : List Value} (h : cs.length = 3) : ∃ a b c, cs = [a, b, c] := by
  match cs, h with
  | [a, b, c], _ => exact ⟨a, b, c, rfl⟩
theorem cellsI1 : Tryz.prog.cellsOf 3 = 1 := by kernel_rfl
theorem trod_i {n : Nat} {v : Value} {y : DataW H × List MemPlace} (h : DataW.trod enc Tryz.prog w base spare held n 3 [v] = some y) : ∃ x, v = .int .i64 x ∧ OkI x := by
  obtain ⟨x, e, _, hw⟩ := DataW.trod_int Tryz.underlying3 h
  simp at e
  exact ⟨x, e, int_bd hw⟩

set_option maxRecDepth 100000 in

theorem agg_open {t : TypeId} {fs : Array Field} {b0 : Nat} (ht : Tryz.prog.underlying t = some (.struct fs)) {v : Value} {d : DataW H} {p : List MemPlace} (hv : Value.okWide Tryz.prog w .any b0 t v) (h : DataW.Trod enc Tryz.prog w base spare held t v d p) :
    ∃ (cs : List Value) (fuel : Nat) (x : DataW H × List MemPlace), v = .agg cs.toArray ∧ DataW.trod enc Tryz.prog w base spare held fuel t cs = some x := by
  obtain ⟨cs, rfl, _⟩ := okWide_struct ht hv
  obtain ⟨fuel, hf⟩ := h
  exact ⟨cs.toList, fuel, _, rfl, hf⟩
end
end Go.Proofs.YtbhkfemebionnaaGreatDoor

namespace Go.Proofs.YtbhkfemebionnaaGreatDoor
open Go.ChangeShapes Go.WideShapes Go.ChangeAt Go.RowKit Go.Deep

theorem open_cap {HH : Type} {enc : TypeId × Value → HH} {w : World} {base : Nat} {spare : Nat → Bool} {held : Bool} {t e : TypeId} {fuel : Nat} {A : Option Addr} {n c : Nat} {x : DataW HH × List MemPlace} (ht : Tryz.prog.underlying t = some (.slice e))
    (h : DataW.trod enc Tryz.prog w base spare held fuel t [.slice A n c] = some x) : n ≤ c ∧ c ≤ maxLen := by
  rcases open_slice ht h with ⟨h1, _⟩ | ⟨a, len, cap, m, k, D, Pl, hcs, hb, hl, hm, _⟩
  · simp at h1
    obtain ⟨rfl, rfl, rfl⟩ := h1
    exact ⟨Nat.le_refl _, Nat.zero_le _⟩
  · simp at hcs
    obtain ⟨rfl, rfl, rfl⟩ := hcs
    exact ⟨hl, hm⟩
end Go.Proofs.YtbhkfemebionnaaGreatDoor

namespace Go.Proofs.YtbhkfemebionnaaGreatDoor
open Go.ChangeShapes Go.WideShapes Go.ChangeAt Go.RowKit Go.Deep

theorem cellsq5 {cs : List Value} (h : cs.length = 5) : ∃ a b c d e, cs = [a, b, c, d, e] := by
  match cs, h with
  | [a, b, c, d, e], _ => exact ⟨a, b, c, d, e, rfl⟩
theorem cellsq6 {cs : List Value} (h : cs.length = 6) : ∃ a b c d e f, cs = [a, b, c, d, e, f] := by
  match cs, h with
  | [a, b, c, d, e, f], _ => exact ⟨a, b, c, d, e, f, rfl⟩
theorem cellsq9 {cs : List Value} (h : cs.length = 9) : ∃ a b c d e f g i j, cs = [a, b, c, d, e, f, g, i, j] := by
  match cs, h with
  | [a, b, c, d, e, f, g, i, j], _ => exact ⟨a, b, c, d, e, f, g, i, j, rfl⟩

def Cu.good (w : World) (c : Cu) : Prop := (c.num.size ≤ maxLen ∧ c.lnk.size ≤ maxLen) ∧ (c.mn ≤ c.mc ∧ c.mc ≤ maxLen) ∧ ∃ ms ts, CV.In w ⟨c, ms, ts⟩

structure LG where
  no : Int
  pri : Int
  A : Option Addr
  n : Nat
  c : Nat
def LG.cs (g : LG) : List Value := [.int .i64 g.no, .int .i64 g.pri, .slice g.A g.n g.c]
def LG.Is (w : World) (g : LG) (X : List CV) : Prop := InC w g.A g.n X ∧ (∀ x ∈ X, x.fitS) ∧ g.n ≤ 9223372036854775807
def LG.good (w : World) (g : LG) : Prop := ∃ X, g.Is w X
theorem cues_of {w : World} {A : Option Addr} {n : Nat} {P : List Cu} (hl : shCu.In w A n P) (hg : ∀ p ∈ P, p.good w) : ∃ X, InC w A n X ∧ ∀ x ∈ X, x.fitS := by
  have key : ∀ K : List Cu, (∀ p ∈ K, p.good w) → ∃ X : List CV, X.map CV.c = K ∧ ∀ x ∈ X, x.In w ∧ x.fitS := by
    intro K
    induction K with
    | nil => intro _; exact ⟨[], rfl, fun x h => absurd h (List.not_mem_nil)⟩
    | cons p K ih =>
      intro h
      obtain ⟨⟨h1, h2⟩, ⟨h3, h4⟩, ms, ts, hi⟩ := h p (List.mem_cons_self ..)
      obtain ⟨X, e, hr⟩ := ih (fun g hg => h g (List.mem_cons_of_mem _ hg))
      refine ⟨⟨p, ms, ts⟩ :: X, by rw [List.map_cons, e], fun x hx => ?_⟩
      rcases List.mem_cons.1 hx with rfl | hx
      · unfold maxLen at h1 h2 h4
        exact ⟨hi, by show p.num.size ≤ _; omega, by show p.lnk.size ≤ _; omega, h3, by show p.mn ≤ _; omega⟩
      · exact hr x hx
  obtain ⟨X, e, hr⟩ := key P hg
  exact ⟨X, ⟨by rw [e]; exact hl, fun x hx => (hr x hx).1⟩, fun x hx => (hr x hx).2⟩
section
variable {HH : Type} {enc : TypeId × Value → HH} {w : World} {base : Nat} {spare : Nat → Bool} {held : Bool}
theorem trodq_str {n : Nat} {v : Value} {y : DataW HH × List MemPlace} (h : DataW.trod enc Tryz.prog w base spare held n 9 [v] = some y) : ∃ s, v = .string s ∧ s.size ≤ maxLen := by
  obtain ⟨s, e, _, hw⟩ := DataW.trod_string Tryz.underlying9 h
  simp at e
  exact ⟨s, e, hw⟩
theorem trodq_b {n : Nat} {v : Value} {y : DataW HH × List MemPlace} (h : DataW.trod enc Tryz.prog w base spare held n 4 [v] = some y) : ∃ b, v = .bool b := by
  obtain ⟨b, e, _⟩ := DataW.trod_bool Tryz.underlying4 h
  simp at e
  exact ⟨b, e⟩
set_option maxRecDepth 100000 in
theorem param_cells {fuel : Nat} {cs : List Value} {x : DataW HH × List MemPlace} (h : DataW.trod enc Tryz.prog w base spare held fuel 39 cs = some x) : ∃ a b : Int, cs = [.int .i64 a, .int .i64 b] := by
  obtain ⟨hl, hf⟩ := trod_field (fs := Tryz.prog.fieldsOf 39) (by kernel_rfl) h
  rw [show Tryz.prog.cellsOf 39 = 2 by kernel_rfl] at hl
  rw [show (Tryz.prog.fieldsOf 39).map (fun f => (f.type, f.offset)) = #[(3, 0), (3, 1)] by kernel_rfl] at hf
  obtain ⟨a0, a1, rfl⟩ : ∃ a b, cs = [a, b] := by
    match cs, hl with
    | [a, b], _ => exact ⟨a, b, rfl⟩
  obtain ⟨n0, y0, h0⟩ := hf 0 _ _ rfl
  obtain ⟨n1, y1, h1⟩ := hf 1 _ _ rfl
  rw [cellsI1] at h0 h1
  obtain ⟨x0, rfl, _⟩ := trod_i h0
  obtain ⟨x1, rfl, _⟩ := trod_i h1
  exact ⟨x0, x1, rfl⟩
set_option maxRecDepth 100000 in
theorem value_cells {fuel : Nat} {cs : List Value} {x : DataW HH × List MemPlace} (h : DataW.trod enc Tryz.prog w base spare held fuel 41 cs = some x) : ∃ a b : Int, cs = [.int .i64 a, .int .i64 b] := by
  obtain ⟨hl, hf⟩ := trod_field (fs := Tryz.prog.fieldsOf 41) (by kernel_rfl) h
  rw [show Tryz.prog.cellsOf 41 = 2 by kernel_rfl] at hl
  rw [show (Tryz.prog.fieldsOf 41).map (fun f => (f.type, f.offset)) = #[(3, 0), (3, 1)] by kernel_rfl] at hf
  obtain ⟨a0, a1, rfl⟩ : ∃ a b, cs = [a, b] := by
    match cs, hl with
    | [a, b], _ => exact ⟨a, b, rfl⟩
  obtain ⟨n0, y0, h0⟩ := hf 0 _ _ rfl
  obtain ⟨n1, y1, h1⟩ := hf 1 _ _ rfl
  rw [cellsI1] at h0 h1
  obtain ⟨x0, rfl, _⟩ := trod_i h0
  obtain ⟨x1, rfl, _⟩ := trod_i h1
  exact ⟨x0, x1, rfl⟩
theorem move_cells {fuel : Nat} {cs : List Value} {x : DataW HH × List MemPlace} (h : DataW.trod enc Tryz.prog w base spare held fuel 43 cs = some x) : ∃ g : Mv, cs = shMv.cs g ∧ True := by
  obtain ⟨hl, hf⟩ := trod_field (fs := Tryz.prog.fieldsOf 43) (by kernel_rfl) h
  rw [show Tryz.prog.cellsOf 43 = 5 by kernel_rfl] at hl
  rw [show (Tryz.prog.fieldsOf 43).map (fun f => (f.type, f.offset)) = #[(39, 0), (41, 2), (3, 4)] by kernel_rfl] at hf
  obtain ⟨a0, a1, a2, a3, a4, rfl⟩ := cellsq5 hl
  obtain ⟨n0, y0, h0⟩ := hf 0 _ _ rfl
  obtain ⟨n1, y1, h1⟩ := hf 1 _ _ rfl
  obtain ⟨n2, y2, h2⟩ := hf 2 _ _ rfl
  rw [show Tryz.prog.cellsOf 39 = 2 by kernel_rfl] at h0
  rw [show Tryz.prog.cellsOf 41 = 2 by kernel_rfl] at h1
  rw [cellsI1] at h2
  obtain ⟨x0, x1, e0⟩ := param_cells h0
  obtain ⟨x2, x3, e1⟩ := value_cells h1
  obtain ⟨x4, rfl, _⟩ := trod_i h2
  simp at e0 e1
  obtain ⟨rfl, rfl⟩ := e0
  obtain ⟨rfl, rfl⟩ := e1
  exact ⟨⟨x0, x1, x2, x3, x4⟩, rfl, trivial⟩
theorem timing_cells {fuel : Nat} {cs : List Value} {x : DataW HH × List MemPlace} (h : DataW.trod enc Tryz.prog w base spare held fuel 26 cs = some x) : ∃ g : Tm, cs = shTm.cs g ∧ True := by
  obtain ⟨hl, hf⟩ := trod_field (fs := Tryz.prog.fieldsOf 26) (by kernel_rfl) h
  rw [show Tryz.prog.cellsOf 26 = 6 by kernel_rfl] at hl
  rw [show (Tryz.prog.fieldsOf 26).map (fun f => (f.type, f.offset)) = #[(3, 0), (3, 1), (3, 2), (3, 3), (3, 4), (3, 5)] by kernel_rfl] at hf
  obtain ⟨a0, a1, a2, a3, a4, a5, rfl⟩ := cellsq6 hl
  obtain ⟨n0, y0, h0⟩ := hf 0 _ _ rfl
  obtain ⟨n1, y1, h1⟩ := hf 1 _ _ rfl
  obtain ⟨n2, y2, h2⟩ := hf 2 _ _ rfl
  obtain ⟨n3, y3, h3⟩ := hf 3 _ _ rfl
  obtain ⟨n4, y4, h4⟩ := hf 4 _ _ rfl
  obtain ⟨n5, y5, h5⟩ := hf 5 _ _ rfl
  rw [cellsI1] at h0 h1 h2 h3 h4 h5
  obtain ⟨x0, rfl, _⟩ := trod_i h0
  obtain ⟨x1, rfl, _⟩ := trod_i h1
  obtain ⟨x2, rfl, _⟩ := trod_i h2
  obtain ⟨x3, rfl, _⟩ := trod_i h3
  obtain ⟨x4, rfl, _⟩ := trod_i h4
  obtain ⟨x5, rfl, _⟩ := trod_i h5
  exact ⟨⟨x0, x1, x2, x3, x4, x5⟩, rfl, trivial⟩
theorem moves_field {n : Nat} {v : Value} {y : DataW HH × List MemPlace} (h : DataW.trod enc Tryz.prog w base spare held n 31 [v] = some y) : ∃ A m c, v = .slice A m c ∧ (m ≤ c ∧ c ≤ maxLen) ∧ ∃ ms, shMv.In w A m ms := by
  have key : ∀ A m c, v = .slice A m c → ∃ A m c, v = .slice A m c ∧ (m ≤ c ∧ c ≤ maxLen) ∧ ∃ ms, shMv.In w A m ms := fun A m c e => by
    subst e
    obtain ⟨X, hl, hg, _, _⟩ := open_rows shMv Tryz.underlying31 (by kernel_rfl : Tryz.prog.cellsOf 43 = shMv.z) (by decide) ⟨0, 0, 0, 0, 0⟩ _ (fun _ _ _ h => move_cells h) h
    exact ⟨A, m, c, rfl, open_cap Tryz.underlying31 h, X, hl⟩
  rcases open_slice Tryz.underlying31 h with ⟨h1, _⟩ | ⟨a, len, cap, m, k, D, Pl, hcs, _⟩
  · simp at h1; exact key _ _ _ h1
  · simp at hcs; exact key _ _ _ hcs
theorem times_field {n : Nat} {v : Value} {y : DataW HH × List MemPlace} (h : DataW.trod enc Tryz.prog w base spare held n 32 [v] = some y) : ∃ A m c, v = .slice A m c ∧ (m ≤ c ∧ c ≤ maxLen) ∧ ∃ ts, shTm.In w A m ts := by
  have key : ∀ A m c, v = .slice A m c → ∃ A m c, v = .slice A m c ∧ (m ≤ c ∧ c ≤ maxLen) ∧ ∃ ts, shTm.In w A m ts := fun A m c e => by
    subst e
    obtain ⟨X, hl, hg, _, _⟩ := open_rows shTm Tryz.underlying32 (by kernel_rfl : Tryz.prog.cellsOf 26 = shTm.z) (by decide) ⟨0, 0, 0, 0, 0, 0⟩ _ (fun _ _ _ h => timing_cells h) h
    exact ⟨A, m, c, rfl, open_cap Tryz.underlying32 h, X, hl⟩
  rcases open_slice Tryz.underlying32 h with ⟨h1, _⟩ | ⟨a, len, cap, m, k, D, Pl, hcs, _⟩
  · simp at h1; exact key _ _ _ h1
  · simp at hcs; exact key _ _ _ hcs
set_option maxRecDepth 100000 in
theorem cue_cells {fuel : Nat} {cs : List Value} {x : DataW HH × List MemPlace} (h : DataW.trod enc Tryz.prog w base spare held fuel 34 cs = some x) : ∃ g : Cu, cs = shCu.cs g ∧ g.good w := by
  obtain ⟨hl, hf⟩ := trod_field (fs := Tryz.prog.fieldsOf 34) (by kernel_rfl) h
  rw [show Tryz.prog.cellsOf 34 = 9 by kernel_rfl] at hl
  rw [show (Tryz.prog.fieldsOf 34).map (fun f => (f.type, f.offset)) = #[(9, 0), (9, 1), (31, 2), (32, 3), (4, 4), (4, 5), (3, 6), (9, 7), (3, 8)] by kernel_rfl] at hf
  obtain ⟨a0, a1, a2, a3, a4, a5, a6, a7, a8, rfl⟩ := cellsq9 hl
  obtain ⟨n0, y0, h0⟩ := hf 0 _ _ rfl
  obtain ⟨n1, y1, h1⟩ := hf 1 _ _ rfl
  obtain ⟨n2, y2, h2⟩ := hf 2 _ _ rfl
  obtain ⟨n3, y3, h3⟩ := hf 3 _ _ rfl
  obtain ⟨n4, y4, h4⟩ := hf 4 _ _ rfl
  obtain ⟨n5, y5, h5⟩ := hf 5 _ _ rfl
  obtain ⟨n6, y6, h6⟩ := hf 6 _ _ rfl
  obtain ⟨n7, y7, h7⟩ := hf 7 _ _ rfl
  obtain ⟨n8, y8, h8⟩ := hf 8 _ _ rfl
  rw [show Tryz.prog.cellsOf 9 = 1 by kernel_rfl] at h0 h1 h7
  rw [show Tryz.prog.cellsOf 31 = 1 by kernel_rfl] at h2
  rw [show Tryz.prog.cellsOf 32 = 1 by kernel_rfl] at h3
  rw [show Tryz.prog.cellsOf 4 = 1 by kernel_rfl] at h4 h5
  rw [cellsI1] at h6 h8
  obtain ⟨s0, rfl, g0⟩ := trodq_str h0
  obtain ⟨s1, rfl, g1⟩ := trodq_str h1
  obtain ⟨A2, m2, c2, rfl, g2, ms, hm⟩ := moves_field h2
  obtain ⟨A3, m3, c3, rfl, g3, ts, ht⟩ := times_field h3
  obtain ⟨b4, rfl⟩ := trodq_b h4
  obtain ⟨b5, rfl⟩ := trodq_b h5
  obtain ⟨x6, rfl, _⟩ := trod_i h6
  obtain ⟨s7, rfl, g7⟩ := trodq_str h7
  obtain ⟨x8, rfl, _⟩ := trod_i h8
  exact ⟨⟨s0, s1, A2, m2, c2, A3, m3, c3, b4, b5, x6, s7, x8⟩, rfl, ⟨g0, g7⟩, g2, ms, ts, hm, ht⟩
theorem cues_field {n : Nat} {v : Value} {y : DataW HH × List MemPlace} (h : DataW.trod enc Tryz.prog w base spare held n 22 [v] = some y) : ∃ A m c, v = .slice A m c ∧ (m ≤ c ∧ c ≤ maxLen) ∧ ∃ X, InC w A m X ∧ ∀ x ∈ X, x.fitS := by
  have key : ∀ A m c, v = .slice A m c → ∃ A m c, v = .slice A m c ∧ (m ≤ c ∧ c ≤ maxLen) ∧ ∃ X, InC w A m X ∧ ∀ x ∈ X, x.fitS := fun A m c e => by
    subst e
    obtain ⟨P, hl, hg, _, _⟩ := open_rows shCu Tryz.underlying22 (by kernel_rfl : Tryz.prog.cellsOf 34 = shCu.z) (by decide) ⟨⟨#[]⟩, ⟨#[]⟩, none, 0, 0, none, 0, 0, false, false, 0, ⟨#[]⟩, 0⟩ _ (fun _ _ _ h => cue_cells h) h
    obtain ⟨X, h1, h2⟩ := cues_of hl hg
    exact ⟨A, m, c, rfl, open_cap Tryz.underlying22 h, X, h1, h2⟩
  rcases open_slice Tryz.underlying22 h with ⟨h1, _⟩ | ⟨a, len, cap, m, k, D, Pl, hcs, _⟩
  · simp at h1; exact key _ _ _ h1
  · simp at hcs; exact key _ _ _ hcs
theorem list_cells {fuel : Nat} {cs : List Value} {x : DataW HH × List MemPlace} (h : DataW.trod enc Tryz.prog w base spare held fuel 24 cs = some x) : ∃ g : LG, cs = g.cs ∧ g.good w := by
  obtain ⟨hl, hf⟩ := trod_field (fs := Tryz.prog.fieldsOf 24) (by kernel_rfl) h
  rw [show Tryz.prog.cellsOf 24 = 3 by kernel_rfl] at hl
  rw [show (Tryz.prog.fieldsOf 24).map (fun f => (f.type, f.offset)) = #[(3, 0), (3, 1), (22, 2)] by kernel_rfl] at hf
  obtain ⟨a0, a1, a2, rfl⟩ := cells3 hl
  obtain ⟨n0, y0, h0⟩ := hf 0 _ _ rfl
  obtain ⟨n1, y1, h1⟩ := hf 1 _ _ rfl
  obtain ⟨n2, y2, h2⟩ := hf 2 _ _ rfl
  rw [cellsI1] at h0 h1
  rw [show Tryz.prog.cellsOf 22 = 1 by kernel_rfl] at h2
  obtain ⟨x0, rfl, _⟩ := trod_i h0
  obtain ⟨x1, rfl, _⟩ := trod_i h1
  obtain ⟨A2, m2, c2, rfl, e2, X, hX, hF⟩ := cues_field h2
  unfold maxLen at e2
  exact ⟨⟨x0, x1, A2, m2, c2⟩, rfl, X, hX, hF, by show m2 ≤ _; omega⟩
end
end Go.Proofs.YtbhkfemebionnaaGreatDoor
