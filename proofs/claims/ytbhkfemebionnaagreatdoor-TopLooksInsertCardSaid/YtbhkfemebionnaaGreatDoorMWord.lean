/- Lemmas and contracts of functions, joined for the claim: Words, Prefix, ZWords, ZText, RBody, Shape, MapLit, MapAt, UKey, StillIn, States. -/
import Derived.WalkKit
import Derived.Lib.Hide
import Derived.Deep.OwnRows
import Derived.Deep.Draws
import Derived.Deep.AppendLies
import Derived.Maps.AppendAt
import Derived.Test.YtbhkfemebionnaaGreatDoorProg
import Derived.Maps.OwnOps
import Derived.MapKept
import Derived.Lib.Strings
import Derived.Test.YtbhkfemebionnaaGreatDoorMPlain
import Derived.RangeFuncBox
import Derived.StillTail
import Derived.StillTactics
import Derived.StillTailTactics
import Derived.OrdersIn
import Derived.RegionIn
import Derived.RangeFuncCalls
import Derived.TacticsInMore
import Derived.OwnWalkIn
import Derived.WideKeyRuns
namespace Go.Proofs.YtbhkfemebionnaaGreatDoor
open Go.RowKit

def Sl (w : World) (z : Nat) (A : Option Addr) (n : Nat) (xs : List Value) : Prop :=
  xs.length = n * z ∧ (0 < n → ∃ b o, A = some ⟨b, o, none⟩ ∧ b < w.heap.size ∧ ∀ j u, xs[j]? = some u → w.cell? ⟨b, o + j, none⟩ = some u)

section
variable {w w' : World} {z n : Nat} {A : Option Addr} {xs : List Value}
theorem Sl.nil (w : World) (z : Nat) (A : Option Addr) : Sl w z A 0 [] := ⟨by simp, fun h => absurd h (by omega)⟩
theorem Sl.keep (h : Sl w z A n xs) (hs : w.heap.size ≤ w'.heap.size) (hk : ∀ b o, b < w.heap.size → w'.cell? ⟨b, o, none⟩ = w.cell? ⟨b, o, none⟩) : Sl w' z A n xs :=
  ⟨h.1, fun hn => by
    obtain ⟨b, o, e, hb, hc⟩ := h.2 hn
    exact ⟨b, o, e, by omega, fun j u hu => (hk b _ hb).trans (hc j u hu)⟩⟩
theorem Sl.below (h : Sl w z A n xs) (hb : Below w.heap.size w w') : Sl w' z A n xs := h.keep hb.size fun b o hlt => hb.cell (p := ⟨b, o, none⟩) hlt
theorem Sl.of_own {base : Nat} {e : TypeId} {c : Nat} (h : w.ownsRow base e z (.slice A n c) n xs) : Sl w z A n xs := by
  refine ⟨h.1, fun hn => ?_⟩
  obtain ⟨g, cap, hv, _, hlt⟩ := h.form hn
  have hA : A = some ⟨g, 0, none⟩ := by injection hv
  subst hA
  refine ⟨g, 0, rfl, hlt, fun j u hu => ?_⟩
  have := h.cells (g := g) rfl j u hu
  unfold Addr.add at this
  by_cases hj : j = 0
  · subst hj; simpa using this
  · simpa [hj] using this
end
theorem below_drewN {B : Nat} {a w : World} (h : Below B a w) (n : Nat) : Below B a (w.drewN n) := ⟨h.os, h.tape, h.output, h.size, h.block⟩
theorem own_form {w : World} {base : Nat} {e : TypeId} {z : Nat} {v : Value} {n : Nat} {xs : List Value} (h : w.ownsRow base e z v n xs) : ∃ A c, v = .slice A n c := by
  rcases h.2 with ⟨rfl, rfl⟩ | ⟨g, cap, cur, rfl, _⟩
  · exact ⟨_, _, rfl⟩
  · exact ⟨_, _, rfl⟩
theorem below_push {base : Nat} {w0 w w' : World} {e : TypeId} {z : Nat} {v : Value} {n : Nat} {xs : List Value} (hb : Below base w0 w) (h0 : base ≤ w0.heap.size) (h : w.ownsRow base e z v n xs) (hg : w.grownBy w' v.ownBlock) : Below base w0 w' :=
  hb.grown hg (Nat.le_trans h0 hb.size) fun k hk => (h.lt k hk).1
theorem cells_new (w : World) (cs : List Value) (t : TypeId) : ∀ j u, cs[j]? = some u → (w.alloc (.cells cs.toArray t)).cell? ((⟨w.heap.size, 0, none⟩ : Addr).add j) = some u := by
  intro j u hj
  have : ((⟨w.heap.size, 0, none⟩ : Addr).add j) = ⟨w.heap.size, j, none⟩ := by unfold Addr.add; split <;> simp_all
  rw [this, World.cell?_alloc_new]
  simpa using hj
theorem wpList_push {P : Program} {w : World} {ops : Array Oper} {rest : List Oper} {o : Oper} {a : Act} {Q : Exit → Act → World → Prop} (hgd : o.guard = none) (s x : Operand) (t : TypeId)
    (ho : o.op = .call { callee := .builtin .append, args := #[s, x], argTypes := #[t, t] })
    (base : Nat) (e : TypeId) (z : Value) (size bytes : Nat) (ht : P.underlying t = some (.slice e)) (hinfo : (P.info? e).map (fun i => (i.zero, i.size, i.bytes)) = some (some z, size, bytes)) (hzs : z.cells.size = size) (hsz : 0 < size)
    (v : Value) (n : Nat) (xs : List Value) (hs : a.eval s = v) (hown : w.ownsRow base e size v n xs)
    (cs : List Value) (t2 : TypeId) (b2 c : Nat) (hx : a.eval x = .slice (some ⟨b2, 0, none⟩) 1 c) (hb2 : b2 = w.heap.size) (hl : cs.length = size) (h1 : ∀ u ∈ cs, u.oneCell' = true)
    (h63 : n + 1 ≤ maxLen) (hbytes : (n + 1) * bytes ≤ 140737488355328) (hbase : base ≤ w.heap.size)
    (h : ∀ g cap w', w'.ownsRow base e size (.slice (some ⟨g, 0, none⟩) (n + 1) cap) (n + 1) (xs ++ cs) → w.grownBy w' v.ownBlock → wpList P ops Q rest (a.put o.dst (.slice (some ⟨g, 0, none⟩) (n + 1) cap)) w') :
    wpList P ops Q (o :: rest) a (w.alloc (.cells cs.toArray t2)) := by
  obtain ⟨i, hi, hz, hsize, hby⟩ := info_parts hinfo
  subst hb2
  refine wpList_append_own (w := w.alloc (.cells cs.toArray t2)) hgd s x t ho base e i z size bytes ht hi hz hsize hby hzs hsz v n xs hs (hown.alloc _) ⟨w.heap.size, 0, none⟩ 1 c cs hx (by omega) (cells_new w cs t2) h1 h63 hbytes (by simp; omega) ?_
  intro v' w' hown' hg _
  obtain ⟨g, cap, hv, _⟩ := hown'.form (by omega)
  subst hv
  exact h g cap w' hown' ((World.grownBy_alloc w _ _).trans hg)
def iv (l : List Int) : List Value := l.map (Value.int .i64)
theorem own_mono {w : World} {base base' : Nat} {e : TypeId} {z : Nat} {v : Value} {n : Nat} {xs : List Value} (h : w.ownsRow base e z v n xs) (hb : base' ≤ base) : w.ownsRow base' e z v n xs := by
  refine ⟨h.1, ?_⟩
  rcases h.2 with h | ⟨g, cap, cur, hv, hg, r⟩
  · exact .inl h
  · exact .inr ⟨g, cap, cur, hv, Nat.le_trans hb hg, r⟩
end Go.Proofs.YtbhkfemebionnaaGreatDoor

namespace Go.Proofs.YtbhkfemebionnaaGreatDoor
open Go.RowKit

theorem map_set {w : World} {r : Nat} {o o' : Obj} (hb : w.heap[r]? = some o) (W : World) (hW : W = { w with heap := w.heap.setIfInBounds r o' }) : W.heap[r]? = some o' ∧ w.grownBy W (some r) := by
  subst hW
  have hr : r < w.heap.size := by
    rcases Nat.lt_or_ge r w.heap.size with h | h
    · exact h
    · rw [Array.getElem?_eq_none h] at hb; cases hb
  refine ⟨?_, ⟨rfl, rfl, rfl, by simp, fun k _ hne => ?_⟩⟩
  · show (w.heap.setIfInBounds r o')[r]? = _
    rw [Array.getElem?_setIfInBounds, if_pos rfl, if_pos hr]
  · show (w.heap.setIfInBounds r o')[k]? = _
    rw [Array.getElem?_setIfInBounds, if_neg (fun e => hne (by rw [e]))]

end Go.Proofs.YtbhkfemebionnaaGreatDoor

namespace Go.Proofs.YtbhkfemebionnaaGreatDoor
open Go.RowKit

def findL {κ : Type} [DecidableEq κ] : List (κ × Value) → κ → Nat → Option (Nat × Value)
  | [], _, _ => none
  | (a, v) :: l, k, i => if k = a then some (i, v) else findL l k (i + 1)
def lookL {κ : Type} [DecidableEq κ] (l : List (κ × Value)) (k : κ) : Option Value := (findL l k 0).map (·.2)

structure KeyTy {κ : Type} [DecidableEq κ] (P : Program) (kt : TypeId) (enc : κ → Value) : Prop where
  check : ∀ a e w, (Instr.checkKey e 10000 kt (enc a)).run P w = .ok () w
  find : ∀ (l : List MapEntry) (L : List (κ × Value)) (k : κ) w, l.map (fun e => (e.key, e.val)) = L.map (fun x => (enc x.1, x.2)) → (Instr.findKey kt (enc k) l).run P w = .ok (findL L k 0) w
theorem findNow_list {κ : Type} [DecidableEq κ] {d : TypeDesc} {enc : κ → Value} (h : ∀ a b, Instr.sameNow d (enc a) (enc b) = some (decide (a = b))) (k : κ) :
    ∀ (l : List MapEntry) (L : List (κ × Value)) (i : Nat), l.map (fun e => (e.key, e.val)) = L.map (fun x => (enc x.1, x.2)) → Instr.findNow d (enc k) l i = some (findL L k i)
  | [], [], _, _ => rfl
  | [], _ :: _, _, h => by simp at h
  | _ :: _, [], _, h => by simp at h
  | e :: l, (a, v) :: L, i, hL => by
    simp only [List.map_cons, List.cons.injEq, Prod.mk.injEq] at hL
    obtain ⟨⟨h1, h2⟩, h3⟩ := hL
    rw [Instr.findNow, h1, h, findL]
    by_cases hk : k = a
    · simp [hk, h2]
    · simp only [hk, decide_false, if_false]
      exact findNow_list h k l L (i + 1) h3
theorem KeyTy.of_now {κ : Type} [DecidableEq κ] {P : Program} {kt : TypeId} {d : TypeDesc} {enc : κ → Value} (hd : P.underlying kt = some d) (hi : ∀ a, MapKept.IsKey d (enc a)) (h : ∀ a b, Instr.sameNow d (enc a) (enc b) = some (decide (a = b))) : KeyTy P kt enc :=
  ⟨fun a e _ => MapKept.run_checkKey hd (hi a) e 9999, fun l L k _ hL => MapKept.run_findKey hd (findNow_list h k l L 0 hL)⟩
theorem KeyTy.int {P : Program} {kt : TypeId} (hd : P.underlying kt = some (.int .i64)) : KeyTy P kt (fun x : Int => Value.int .i64 x) :=
  .of_now hd (fun _ => rfl) fun a b => by
    simp only [Instr.sameNow, if_true]
    by_cases h : a = b <;> simp [h]
def MapAt {κ : Type} (enc : κ → Value) (w : World) (b : Nat) (L : List (κ × Value)) : Prop :=
  ∃ es clock, w.heap[b]? = some (.map es clock) ∧ es.toList.map (fun e : MapEntry => (e.key, e.val)) = L.map (fun x => (enc x.1, x.2))
theorem MapAt.lt {κ : Type} {enc : κ → Value} {w : World} {b : Nat} {L : List (κ × Value)} (h : MapAt enc w b L) : b < w.heap.size := by
  obtain ⟨es, cl, hb, _⟩ := h
  rcases Nat.lt_or_ge b w.heap.size with h | h
  · exact h
  · rw [Array.getElem?_eq_none h] at hb; cases hb
theorem MapAt.made {κ : Type} (enc : κ → Value) (w : World) : MapAt enc (w.alloc (.map #[] 0)) w.heap.size [] :=
  ⟨#[], 0, (MapKept.heap_alloc w _).1, rfl⟩
theorem MapAt.keep {κ : Type} {enc : κ → Value} {w w' : World} {b : Nat} {L : List (κ × Value)} (h : MapAt enc w b L) (hk : w'.heap[b]? = w.heap[b]?) : MapAt enc w' b L := by
  obtain ⟨es, cl, hb, hL⟩ := h
  exact ⟨es, cl, hk.trans hb, hL⟩
theorem MapAt.grown {κ : Type} {enc : κ → Value} {w w' : World} {b : Nat} {L : List (κ × Value)} {row : Option Nat} (h : MapAt enc w b L) (hg : w.grownBy w' row) (hne : some b ≠ row) : MapAt enc w' b L :=
  h.keep (hg.block b h.lt hne)

def lookV {κ : Type} [DecidableEq κ] (ok : Bool) (L : List (κ × Value)) (k : κ) (z : Value) : Value :=
  if ok then .tuple #[(lookL L k).getD z, .bool (lookL L k).isSome] else (lookL L k).getD z
theorem run_lookL {κ : Type} [DecidableEq κ] {P : Program} {w : World} {t kt et : TypeId} {enc : κ → Value} {b : Nat} {L : List (κ × Value)} (hm : P.underlying t = some (.map kt et)) (K : KeyTy P kt enc) (hM : MapAt enc w b L) (k : κ) {z : Value} (hz : (zeroValue et).run P w = .ok z w) (ok : Bool) :
    (Instr.lookup t (.map (some b)) (enc k) ok).run P w = .ok (lookV ok L k z) w := by
  obtain ⟨es, cl, hb, hL⟩ := hM
  have hf := K.find es.toList L k w hL
  unfold lookV lookL
  cases hr : findL L k 0 with
  | none => rw [hr] at hf; cases ok <;> simp [Instr.lookup, run_underlying hm, MapKept.run_getObj_map hb, K.check, hf, hz, Result.andThen]
  | some x => obtain ⟨i, v⟩ := x; rw [hr] at hf; cases ok <;> simp [Instr.lookup, run_underlying hm, MapKept.run_getObj_map hb, K.check, hf, Result.andThen]
theorem run_putL {κ : Type} [DecidableEq κ] {P : Program} {w : World} {t kt et : TypeId} {enc : κ → Value} {b : Nat} {L : List (κ × Value)} (hm : P.underlying t = some (.map kt et)) (K : KeyTy P kt enc) (hM : MapAt enc w b L) (k : κ) (v : Value) (hn : lookL L k = none) :
    ∃ w', (Instr.mapUpdate t (.map (some b)) (enc k) v).run P w = .ok () w' ∧ MapAt enc w' b (L ++ [(k, v)]) ∧ w.grownBy w' (some b) := by
  obtain ⟨es, cl, hb, hL⟩ := hM
  have hf := K.find es.toList L k w hL
  have hr : findL L k 0 = none := by unfold lookL at hn; cases h : findL L k 0 with
    | none => rfl
    | some x => rw [h] at hn; cases hn
  rw [hr] at hf
  obtain ⟨h1, h2⟩ := map_set (o' := .map (es.push { key := enc k, val := v, born := cl }) (cl + 1)) hb _ rfl
  refine ⟨_, ?_, ⟨_, _, h1, ?_⟩, h2⟩
  · simp [Instr.mapUpdate, run_underlying hm, MapKept.run_getObj_map hb, K.check, hf, MapKept.run_setObj_map _ hb, Result.andThen]
  · rw [Array.toList_push, List.map_append, List.map_append, hL]; rfl
theorem wpList_lookL {κ : Type} [DecidableEq κ] {P : Program} (w : World) {ops : Array Oper} {rest : List Oper} {o : Oper} {a : Act} {Q : Exit → Act → World → Prop}
    (hg : o.guard = none) (m x : Operand) (t : TypeId) (ok : Bool) (hop : o.op = Op.lookup t m x ok) (kt et : TypeId) (hm : P.underlying t = some (.map kt et)) (enc : κ → Value) (K : KeyTy P kt enc) (b : Nat) (L : List (κ × Value)) (k : κ)
    (he : a.eval m = .map (some b)) (hx : a.eval x = enc k) (hM : MapAt enc w b L) (z : Value) (hz : (zeroValue et).run P w = .ok z w)
    (hK : wpList P ops Q rest (a.put o.dst (lookV ok L k z)) w) : wpList P ops Q (o :: rest) a w := by
  refine wpList_plain hg fun K' hK' => ?_
  have hrun := run_lookL hm K hM k hz ok
  unfold Oper.wp
  simp [execOp, hop, he, hx, hrun, Result.andThen]
  exact hK' _ _ hK
theorem wpList_putL {κ : Type} [DecidableEq κ] {P : Program} (w : World) {ops : Array Oper} {rest : List Oper} {o : Oper} {a : Act} {Q : Exit → Act → World → Prop}
    (hg : o.guard = none) (m x v : Operand) (t : TypeId) (hop : o.op = Op.mapUpdate t m x v) (kt et : TypeId) (hm : P.underlying t = some (.map kt et)) (enc : κ → Value) (K : KeyTy P kt enc) (b : Nat) (L : List (κ × Value)) (k : κ) (val : Value)
    (he : a.eval m = .map (some b)) (hx : a.eval x = enc k) (hv : a.eval v = val) (hM : MapAt enc w b L) (hn : lookL L k = none)
    (hK : ∀ w', MapAt enc w' b (L ++ [(k, val)]) → w.grownBy w' (some b) → wpList P ops Q rest (a.put o.dst undef) w') : wpList P ops Q (o :: rest) a w := by
  refine wpList_plain hg fun K' hK' => ?_
  obtain ⟨w', hrun, h1, h2⟩ := run_putL hm K hM k val hn
  unfold Oper.wp
  simp [execOp, hop, he, hx, hv, hrun, Result.andThen]
  exact hK' _ _ (hK w' h1 h2)
def setL {κ : Type} (l : List κ) : List (κ × Value) := l.map fun k => (k, .bool true)
theorem lookL_set {κ : Type} [DecidableEq κ] (k : κ) : ∀ (l : List κ), lookL (setL l) k = if k ∈ l then some (.bool true) else none := by
  intro l
  unfold lookL
  suffices h : ∀ (l : List κ) (i : Nat), (findL (setL l) k i).map (·.2) = if k ∈ l then some (.bool true) else none from h l 0
  intro l
  induction l with
  | nil => intro i; rfl
  | cons a l ih =>
    intro i
    have h := ih (i + 1)
    unfold setL at h ⊢
    simp only [List.map_cons, findL]
    by_cases hk : k = a
    · simp [hk]
    · simp only [hk, if_false, List.mem_cons, false_or]
      exact h
theorem setL_push {κ : Type} (l : List κ) (k : κ) : setL l ++ [(k, .bool true)] = setL (l ++ [k]) := by unfold setL; simp
theorem lookV_set {κ : Type} [DecidableEq κ] (l : List κ) (k : κ) : lookV false (setL l) k (.bool false) = .bool (decide (k ∈ l)) := by
  unfold lookV
  rw [lookL_set]
  by_cases h : k ∈ l <;> simp [h]
end Go.Proofs.YtbhkfemebionnaaGreatDoor

namespace Go.Proofs.YtbhkfemebionnaaGreatDoor
open Go.RowKit

end Go.Proofs.YtbhkfemebionnaaGreatDoor

namespace Go.Proofs.YtbhkfemebionnaaGreatDoor
open Go.RowKit

end Go.Proofs.YtbhkfemebionnaaGreatDoor

namespace Go.Proofs.YtbhkfemebionnaaGreatDoor
open Go.RowKit

end Go.Proofs.YtbhkfemebionnaaGreatDoor

namespace Go.Proofs.YtbhkfemebionnaaGreatDoor
open Go.RowKit

theorem bytes_len (s : ByteArray) : s.data.toList.length = s.size := by simp
theorem bs_of {a : ByteArray} {l : BT} (h : a.data.toList = l) : a = ⟨l.toArray⟩ := by
  obtain ⟨⟨x⟩⟩ := a
  simp at h
  rw [h]
end Go.Proofs.YtbhkfemebionnaaGreatDoor

namespace Go.Proofs.YtbhkfemebionnaaGreatDoor
open Go.RowKit

structure Sh (α : Type) where
  z : Nat
  cs : α → List Value
  len : ∀ a, (cs a).length = z
  one : ∀ a, ∀ u ∈ cs a, u.oneCell' = true
section
variable {α : Type} (S : Sh α)
def Sh.vs (l : List α) : List Value := l.flatMap S.cs
theorem Sh.vs_cons (a : α) (l : List α) : S.vs (a :: l) = S.cs a ++ S.vs l := rfl
theorem Sh.vs_append (l m : List α) : S.vs (l ++ m) = S.vs l ++ S.vs m := by simp [Sh.vs]
theorem Sh.vs_one1 (a : α) : S.vs [a] = S.cs a := by simp [Sh.vs]
theorem Sh.vs_length (l : List α) : (S.vs l).length = l.length * S.z := by
  induction l with
  | nil => simp [Sh.vs]
  | cons a l ih => rw [S.vs_cons, List.length_append, ih, S.len, List.length_cons, Nat.succ_mul, Nat.add_comm]
theorem Sh.vs_at : ∀ (l : List α) (k : Nat) (hk : k < l.length) (j : Nat), j < S.z → (S.vs l)[k * S.z + j]? = (S.cs l[k])[j]?
  | a :: l, 0, _, j, hj => by
    rw [S.vs_cons, List.getElem?_append_left (by rw [S.len]; omega)]
    simp
  | a :: l, k + 1, hk, j, hj => by
    have h1 := Sh.vs_at l k (by simpa using hk) j hj
    have e : (k + 1) * S.z + j - S.z = k * S.z + j := by rw [Nat.succ_mul]; omega
    rw [S.vs_cons, List.getElem?_append_right (by rw [S.len, Nat.succ_mul]; omega), S.len, e, h1]
    rfl
theorem Sh.vs_one (l : List α) : ∀ u ∈ S.vs l, u.oneCell' = true := by
  intro u hu
  simp only [Sh.vs, List.mem_flatMap] at hu
  obtain ⟨r, _, h⟩ := hu
  exact S.one r u h
theorem Sh.vs_take (l : List α) (k : Nat) (hk : k < l.length) : S.vs (l.take (k + 1)) = S.vs (l.take k) ++ S.cs l[k] := by
  rw [List.take_succ_eq_append_getElem hk, S.vs_append, S.vs_one1]

def Sh.In (w : World) (A : Option Addr) (n : Nat) (l : List α) : Prop := n = l.length ∧ Sl w S.z A n (S.vs l)
variable {S}
theorem Sh.In.below {w w' : World} {A : Option Addr} {n : Nat} {l : List α} (h : S.In w A n l) (hb : Below w.heap.size w w') : S.In w' A n l := ⟨h.1, h.2.below hb⟩
theorem Sh.In.at_ {w : World} {A : Option Addr} {n : Nat} {l : List α} (h : S.In w A n l) (h0 : 0 < l.length) :
    ∃ b o, A = some ⟨b, o, none⟩ ∧ b < w.heap.size ∧ ∀ k (hk : k < l.length) j u, j < S.z → (S.cs l[k])[j]? = some u → w.cell? ⟨b, o + k * S.z + j, none⟩ = some u := by
  obtain ⟨b, o, e, hb, hc⟩ := h.2.2 (by have := h.1; omega)
  refine ⟨b, o, e, hb, fun k hk j u hj hu => ?_⟩
  rw [Nat.add_assoc]
  exact hc _ _ ((S.vs_at l k hk j hj).trans hu)
theorem Sh.In.nil (w : World) (A : Option Addr) : S.In w A 0 [] := ⟨rfl, by simpa [Sh.vs] using Sl.nil w S.z A⟩
theorem Sh.In.of_own {w : World} {base : Nat} {e : TypeId} {A : Option Addr} {n c : Nat} {l : List α} (h : w.ownsRow base e S.z (.slice A n c) n (S.vs l)) (hn : n = l.length) : S.In w A n l := ⟨hn, Sl.of_own h⟩
theorem Sh.In.of_cells {w : World} {a : Addr} {len : Nat} (Good : α → Prop) (hz : 0 < S.z) (h : ∀ i, i < len → ∃ x : α, Good x ∧ ∀ j u, (S.cs x)[j]? = some u → w.cell? (a.add (i * S.z + j)) = some u) (d : α) : ∃ l, S.In w (some a) len l ∧ ∀ x ∈ l, Good x := by
  have hch : ∀ i, ∃ x : α, i < len → Good x ∧ ∀ j u, (S.cs x)[j]? = some u → w.cell? (a.add (i * S.z + j)) = some u := fun i => by
    by_cases hi : i < len
    · obtain ⟨x, hx⟩ := h i hi
      exact ⟨x, fun _ => hx⟩
    · exact ⟨d, fun h => absurd h hi⟩
  let f : Nat → α := fun i => Classical.choose (hch i)
  have hf0 : ∀ i, i < len → Good (f i) ∧ ∀ j u, (S.cs (f i))[j]? = some u → w.cell? (a.add (i * S.z + j)) = some u := fun i => Classical.choose_spec (hch i)
  have hf : ∀ i, i < len → ∀ j u, (S.cs (f i))[j]? = some u → w.cell? (a.add (i * S.z + j)) = some u := fun i hi => (hf0 i hi).2
  refine ⟨(List.range len).map f, ⟨by simp, by rw [S.vs_length]; simp, fun hn => ?_⟩, fun x hx => ?_⟩
  · obtain ⟨b, o, sp⟩ := a
    have hlen := S.len (f 0)
    have h0 := hf 0 hn 0 ((S.cs (f 0))[0]'(by omega)) (List.getElem?_eq_getElem _)
    have hsp : sp = none := by simpa [Addr.add] using World.cell?_spot h0
    subst hsp
    have hadd : ∀ j, ((⟨b, o, none⟩ : Addr).add j) = ⟨b, o + j, none⟩ := fun j => by unfold Addr.add; split <;> simp_all
    refine ⟨b, o, rfl, block_lt_of_cell (a := ⟨b, o + (0 * S.z + 0), none⟩) (by rw [← hadd]; exact h0), fun j u hu => ?_⟩
    have hlt : j < (S.vs ((List.range len).map f)).length := (List.getElem?_eq_some_iff.1 hu).1
    rw [S.vs_length] at hlt
    simp at hlt
    have hd : j / S.z < len := Nat.div_lt_of_lt_mul (by rw [Nat.mul_comm]; exact hlt)
    have hk : j / S.z < ((List.range len).map f).length := by simpa using hd
    have hm : j % S.z < S.z := Nat.mod_lt _ hz
    have e : j / S.z * S.z + j % S.z = j := by rw [Nat.mul_comm]; exact Nat.div_add_mod j S.z
    have h1 := S.vs_at ((List.range len).map f) (j / S.z) hk (j % S.z) hm
    rw [e, hu] at h1
    have hget : ((List.range len).map f)[j / S.z] = f (j / S.z) := by simp
    rw [hget] at h1
    have := hf (j / S.z) hd (j % S.z) u h1.symm
    rwa [hadd, e] at this
  · obtain ⟨i, hi, rfl⟩ := List.mem_map.1 hx
    exact (hf0 i (List.mem_range.1 hi)).1
variable (S)

def Sh.Out (e : TypeId) (l : List α) (w : World) (r : Value) (w' : World) : Prop :=
  ∃ A c, r = .slice A l.length c ∧ w'.ownsRow w.heap.size e S.z (.slice A l.length c) l.length (S.vs l) ∧ Below w.heap.size w w'
variable {S}
theorem Sh.Out.up {e : TypeId} {l : List α} {w w1 w' : World} {r : Value} (h : S.Out e l w1 r w') (hb : Below w.heap.size w w1) : S.Out e l w r w' := by
  obtain ⟨A, c, hr, ho, hw⟩ := h
  exact ⟨A, c, hr, own_mono ho hb.size, hb.trans (hw.mono hb.size)⟩
end

end Go.Proofs.YtbhkfemebionnaaGreatDoor

namespace Go.Proofs.YtbhkfemebionnaaGreatDoor
open Go

section
variable {P : Program} {ops : Array Oper} {w : World} {y n : Nat}
end
end Go.Proofs.YtbhkfemebionnaaGreatDoor

namespace Go.Proofs.YtbhkfemebionnaaGreatDoor
open Go

section
variable {F : Fence} {n : Nat} {P : Program} {md : Region.Mode} {ops : Array Oper} {Q : Exit → Act → World → Prop}

end
end Go.Proofs.YtbhkfemebionnaaGreatDoor

namespace Go.Proofs.YtbhkfemebionnaaGreatDoor
open Go.RowKit

theorem findAsking_list {κ : Type} [DecidableEq κ] {P : Program} {kt : TypeId} {enc : κ → Value} (he : ∀ a b w, (Op.equal kt (enc a) (enc b)).run P w = .ok (decide (a = b)) w) (k : κ) (w : World) :
    ∀ (l : List MapEntry) (L : List (κ × Value)) (i : Nat), l.map (fun e => (e.key, e.val)) = L.map (fun x => (enc x.1, x.2)) → (Instr.findAsking kt (enc k) l i).run P w = .ok (findL L k i) w
  | [], [], _, _ => rfl
  | [], _ :: _, _, h => by simp at h
  | _ :: _, [], _, h => by simp at h
  | e :: l, (a, v) :: L, i, hL => by
    simp only [List.map_cons, List.cons.injEq, Prod.mk.injEq] at hL
    obtain ⟨⟨h1, h2⟩, h3⟩ := hL
    have ih := findAsking_list he k w l L (i + 1) h3
    unfold Instr.findAsking
    simp only [Sem.run_bind, h1, he, Result.andThen]
    by_cases hk : k = a
    · simp [hk, h2, findL]
    · simp [hk, findL, ih]
theorem KeyTy.of_eq {κ : Type} [DecidableEq κ] {P : Program} {kt : TypeId} {enc : κ → Value} (hwide : (match P.underlying kt with | some (.array _ _) | some (.struct _) => true | _ => false) = true)
    (hc : ∀ a e w, (Instr.checkKey e 10000 kt (enc a)).run P w = .ok () w) (he : ∀ a b w, (Op.equal kt (enc a) (enc b)).run P w = .ok (decide (a = b)) w) : KeyTy P kt enc :=
  ⟨hc, fun l L k w hL => (run_findKey_eq w hwide (enc k) l).trans (findAsking_list he k w l L 0 hL)⟩
end Go.Proofs.YtbhkfemebionnaaGreatDoor
