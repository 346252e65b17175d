/- From a row's reading to the walks: a slice of ranges opened; the listed variables; the witness. -/
import Derived.Test.YteaofninjbhiaaaDoorRows
import Derived.Test.YteaofninjbhiaaaDoorFormat
import Derived.ProofKit
import Derived.OpenShut
import Derived.ChangeOld
import Derived.Deep.Slices
import Derived.Deep.Fields
import Derived.ChangeSame
import Derived.ChangeVars
import Derived.JoinedOf
import Derived.RowKit
import Derived.RowKitTokens
import Derived.LaidLaws
import Derived.LaidHandle
import Derived.LaidSub
import Derived.Lib.LaidU8
import Derived.Deep.DeepLaidRun
namespace Go.Proofs.YteaofninjbhiaaaDoor
open Go.ChangeShapes Go.WideShapes Go.ChangeAt Go.RowKit Go.Deep

theorem rs_of_cells {w : World} {a : Addr} {len : Nat} (h : ∀ i, i < len → ∃ x y : Int, w.cell? (a.add (i * 2)) = some (.int .i64 x) ∧ w.cell? (a.add (i * 2 + 1)) = some (.int .i64 y)) : ∃ l, Rs w (some a) len l := by
  have hch : ∀ i, ∃ r : Int × Int, i < len → w.cell? (a.add (i * 2)) = some (.int .i64 r.1) ∧ w.cell? (a.add (i * 2 + 1)) = some (.int .i64 r.2) := fun i => by
    by_cases hi : i < len
    · obtain ⟨x, y, h1, h2⟩ := h i hi
      exact ⟨(x, y), fun _ => ⟨h1, h2⟩⟩
    · exact ⟨(0, 0), fun h => absurd h hi⟩
  let f : Nat → Int × Int := fun i => Classical.choose (hch i)
  have hf : ∀ i, i < len → w.cell? (a.add (i * 2)) = some (.int .i64 (f i).1) ∧ w.cell? (a.add (i * 2 + 1)) = some (.int .i64 (f i).2) := fun i => Classical.choose_spec (hch i)
  refine ⟨(List.range len).map f, by simp, by rw [rv_length]; simp, fun hn => ?_⟩
  obtain ⟨b, o, sp⟩ := a
  have h0 := (hf 0 hn).1
  have hsp : sp = none := by simpa [Addr.add] using World.cell?_spot h0
  subst hsp
  have hadd : ∀ j, ((⟨b, o, none⟩ : Addr).add j) = ⟨b, o + j, none⟩ := fun j => by unfold Addr.add; split <;> simp_all
  refine ⟨b, o, rfl, block_lt_of_cell (a := ⟨b, o + 0 * 2, none⟩) (by rw [← hadd]; exact h0), fun j u hu => ?_⟩
  have hlt : j < (rv ((List.range len).map f)).length := (List.getElem?_eq_some_iff.1 hu).1
  rw [rv_length] at hlt
  simp at hlt
  have hk : j / 2 < ((List.range len).map f).length := by simp; omega
  have ⟨h1, h2⟩ := rv_at ((List.range len).map f) (j / 2) hk
  have ⟨g1, g2⟩ := hf (j / 2) (by omega)
  rw [hadd] at g1 g2
  have hget : ((List.range len).map f)[j / 2] = f (j / 2) := by simp
  rw [hget] at h1 h2
  rcases Nat.mod_two_eq_zero_or_one j with hj | hj
  · have e : j / 2 * 2 = j := by omega
    rw [e] at h1 g1
    rw [h1] at hu; rw [g1]; exact hu
  · have e : j / 2 * 2 + 1 = j := by omega
    rw [e] at h2 g2
    rw [h2] at hu; rw [g2]; exact hu

section
variable {H : Type} {enc : TypeId × Value → H} {w : World} {base : Nat} {spare : Nat → Bool} {held : Bool}
theorem fieldsR : Tryd.prog.underlying 37 = some (.struct (Tryd.prog.fieldsOf 37)) := by kernel_rfl
theorem f2size : (Tryd.prog.fieldsOf 37).size = 2 := by kernel_rfl
theorem f2types : (Tryd.prog.fieldsOf 37).map (fun f => (f.type, f.offset)) = #[(3, 0), (3, 1)] := by kernel_rfl
theorem cellsR : Tryd.prog.cellsOf 37 = 2 := by kernel_rfl
theorem cellsI : Tryd.prog.cellsOf 3 = 1 := by kernel_rfl
set_option maxRecDepth 100000 in
theorem open_ranges {fuel : Nat} {A : Option Addr} {n c : Nat} {x : DataW H × List MemPlace} (h : DataW.trod enc Tryd.prog w base spare held fuel 22 [.slice A n c] = some x) : (∃ l, Rs w A n l) ∧ n ≤ maxLen := by
  rcases open_slice Tryd.underlying22 h with ⟨h1, _⟩ | ⟨a, len, cap, m, k, D, Pl, hcs, hb, hl, hm, hmm, hx, hi⟩
  · simp at h1
    obtain ⟨rfl, rfl, rfl⟩ := h1
    exact ⟨⟨[], rfl, Sl.nil _ _ _⟩, by simp⟩
  · simp at hcs
    obtain ⟨rfl, rfl, rfl⟩ := hcs
    refine ⟨rs_of_cells fun i hin => ?_, by omega⟩
    obtain ⟨cs', hc, ht'⟩ := hi i (by rw [hmm]; split <;> omega)
    rw [cellsR] at hc
    obtain ⟨ys, n', hn', hy, hlen, hyl, hf⟩ := DataW.trod_struct fieldsR ht'
    obtain ⟨_, hcl, hat⟩ := World.cells?_some hc
    rw [cellsR] at hlen
    match cs', hlen with
    | [c0, c1], _ =>
      have e0 := congrArg (fun a => a[0]?) f2types
      have e1 := congrArg (fun a => a[1]?) f2types
      simp at e0 e1
      obtain ⟨q0, hq0, t0, o0⟩ := e0
      obtain ⟨q1, hq1, t1, o1⟩ := e1
      have g0 := hf 0 q0 hq0
      have g1 := hf 1 q1 hq1
      rw [t0, o0, cellsI] at g0
      rw [t1, o1, cellsI] at g1
      simp at g0 g1
      have hys0 : ys[0]? = some (ys[0]'(by rw [hyl, f2size]; omega)) := List.getElem?_eq_getElem _
      have hys1 : ys[1]? = some (ys[1]'(by rw [hyl, f2size]; omega)) := List.getElem?_eq_getElem _
      rw [hys0] at g0
      rw [hys1] at g1
      obtain ⟨x0, ex0, _, _⟩ := DataW.trod_int Tryd.underlying3 g0
      obtain ⟨x1, ex1, _, _⟩ := DataW.trod_int Tryd.underlying3 g1
      simp at ex0 ex1
      subst ex0
      subst ex1
      have a0 := hat 0 (by omega)
      have a1 := hat 1 (by omega)
      refine ⟨x0, x1, ?_, ?_⟩
      · simpa [Go.Deep.add_add] using a0
      · simpa [Go.Deep.add_add] using a1
end

theorem own_ : ownKnob Tryd.prog.godebug = none := by kernel_rfl
theorem laidOut : laidOutB Tryd.prog = true := by kernel_rfl
/-- the listed variables -/
def L3 : List (String × DataW Unit) := Rows.rangesWritesRow.laid
theorem tabType : (Tryd.prog.globals[0]?).map (·.type) = some 131 := by kernel_rfl
theorem cells20 : Tryd.prog.cellsOf 131 = 20 := by kernel_rfl
theorem cellsU : Tryd.prog.cellsOf 121 = 1 := by kernel_rfl
theorem tabData_eq : (Rows.laid_internal_strconv_uint64pow10 : DataW Unit) = Lib.tabData .u64 Lib.pow10Tab := by kernel_rfl
theorem tab_of_laid {W : World} (h : laidMetH Tryd.prog L3 W) : Tab W := by
  have h1 : laidMet Tryd.prog L3 W := (laidMetH_iff.1 h).1
  obtain ⟨g, t, cs, fuel, p, hg, ht, hv, hd⟩ := Lib.laidMet.reads (n := "internal/strconv.uint64pow10") (d := Rows.laid_internal_strconv_uint64pow10) h1 (.tail _ (.tail _ (.head _)))
  obtain rfl := Option.some.inj (globTab.symm.trans hg)
  obtain rfl := Option.some.inj (tabType.symm.trans ht)
  rw [tabData_eq] at hd
  unfold Tab Lib.TabIs
  rw [hv, ← Lib.cells_of_tab Tryd.underlying131 Tryd.underlying121 cellsU cells20 hd]

def litCells : List (DataW Unit) → List Value
  | .lit (.int k z) :: r => .int k z :: litCells r
  | _ :: r => .int .u8 0 :: litCells r
  | [] => []
def debits : DataW Unit → List Value
  | .agg l => litCells l
  | _ => []
/-- a world in which the listed variables hold what the program's text lays -/
noncomputable def laidWorld (os : Os) : World :=
  let w0 := World.holding Tryd.prog os ⟨#[], #[], []⟩
  let put (h : Array Obj) (g : Nat) (cs : Array Value) : Array Obj := h.modify g fun
    | .cells _ t frozen => .cells cs t frozen
    | o => o
  let h1 := put w0.heap 0 (Lib.pow10Tab.map fun z => Value.int .u64 z).toArray
  let h2 := put h1 2 (debits (Rows.laid_math_bits_deBruijn32tab : DataW Unit)).toArray
  { w0 with heap := put h2 3 (debits (Rows.laid_math_bits_deBruijn64tab : DataW Unit)).toArray }
theorem laid_met (os : Os) (args : Array Value) : laidMetH Tryd.prog L3 ((laidWorld os).forCall (fun _ _ => 0) ⟨#[], args, []⟩).memory :=
  laidMetH_of_parts (laidMet_of_run3 10 (by kernel_rfl) (by kernel_rfl) (by kernel_rfl)) (by kernel_rfl)
end Go.Proofs.YteaofninjbhiaaaDoor
