/- Lemmas and contracts of functions, joined for the claim: ZDown, ZMag, ZAdd, ZTimes, ZWord, ZCmp, ZGuess, ZDiv, ZNum, ZSum, ZSum2, ZQuo, ZSub, ZGcd, ZCheck, ZOf, ZFmt, ZWrite, ZRead, ZPair, ZBin, ZCom, Laid. -/
import Derived.Test.YtbhkfemebionnaaGreatDoorMWord
import Derived.Test.YtbhkfemebionnaaGreatDoorMPlain
import Derived.Test.YtbhkfemebionnaaGreatDoorMShelf
import Derived.Shelf.Strings.SlTrimAscii
import Derived.WalkSmall
import Derived.Lib.AppendIntMem
import Derived.Shelf.Strings.Repeat
import Derived.Shelf.Strings.BuilderK
import Derived.RangeFuncNested
import Derived.RangeFuncBound
import Derived.RangeFuncCalls
import Derived.RangeFuncLeaves
import Derived.RangeFuncBox
import Derived.Shelf.Abstract
import Derived.Shelf.RegionOpen
import Derived.OwnWalkIn
import Derived.TacticsInMore
import Derived.LoopNIn
import Derived.LoopIn
import Derived.Deep.QuietTactic
import Derived.BigQuiet
import Derived.Test.YtbhkfemebionnaaGreatDoorProg
import Derived.OwnWalk
import Derived.RegionIn
import Derived.BigRegionIn
import Derived.Deep.RegionHeld3
import Derived.Lib.AtoiErrMem
import Derived.Laws.DeepStrings4
import Derived.Test.YtbhkfemebionnaaGreatDoorRows
import Derived.ProofKit
import Derived.OpenShut
import Derived.ChangeOld
import Derived.Deep.Slices
import Derived.Deep.Fields
import Derived.ChangeSame
import Derived.ChangeVars
import Derived.ChangeMaps5
import Derived.JoinedOf
import Derived.RowKit
import Derived.RowKitTokens
import Derived.LaidLaws
import Derived.LaidHandle
import Derived.LaidSub
import Derived.Lib.LaidU8
import Derived.Deep.DeepLaidRun
import Derived.Stop.LaidErr
namespace Go.Proofs.YtbhkfemebionnaaGreatDoor
open Go.RowKit

end Go.Proofs.YtbhkfemebionnaaGreatDoor

namespace Go.Proofs.YtbhkfemebionnaaGreatDoor
open Go.RowKit

def Tab (w : World) : Prop := Lib.TabIs Tryz.prog w "internal/strconv.uint64pow10" .u64 Lib.pow10Tab
theorem globTab : Tryz.prog.globalNamed "internal/strconv.uint64pow10" = some 3 := by kernel_rfl
end Go.Proofs.YtbhkfemebionnaaGreatDoor

namespace Go.Proofs.YtbhkfemebionnaaGreatDoor
open Go.RowKit Go.Sort Go.Lib

end Go.Proofs.YtbhkfemebionnaaGreatDoor

namespace Go.Proofs.YtbhkfemebionnaaGreatDoor
open Go.RowKit Go.Shelf
attribute [local go_sem] Oper.semAt_some

def KpR (n₀ : Nat) (t : TypeId) (W W' : World) : Prop := Below n₀ W W' ∧ ∀ (k : Nat) (c : Array Value), W.heap[k]? = some (Obj.cells c t (0, 0)) → W'.heap[k]? = some (Obj.cells c t (0, 0))
theorem KpR.refl (n₀ : Nat) (t : TypeId) (W : World) : KpR n₀ t W W := ⟨Below.refl _ _, fun _ _ h => h⟩
theorem KpR.t {n₀ : Nat} {t : TypeId} {A B C : World} (h : KpR n₀ t A B) (k : KpR n₀ t B C) : KpR n₀ t A C := ⟨h.1.trans k.1, fun i c hi => k.2 i c (h.2 i c hi)⟩
theorem KpR.b {n₀ : Nat} {t : TypeId} {w : World} (hn : n₀ ≤ w.heap.size) (W : World) (l : Nat) (o o' : Obj) (hl : w.heap.size ≤ l) (h : W.heap[l]? = some o) (hc : o.isCells = false) (hw : o.isWalk = false) : KpR n₀ t W (W.putObj l o') := by
  refine ⟨belowK_b hn W l o o' hl h hc hw, fun k c hk => ?_⟩
  have hne : k ≠ l := by
    rintro rfl
    rw [hk] at h
    injection h with h
    subst h
    simp [Obj.isCells] at hc
  exact (World.putObj_heap_other hne).trans hk
theorem KpR.grown {n₀ : Nat} {t : TypeId} {A B W : World} {row : Option Nat} (h : KpR n₀ t A B) (hg : B.grownBy W row) (hB : n₀ ≤ B.heap.size) (hr : ∀ k, row = some k → n₀ ≤ k ∧ ∀ c : Array Value, B.heap[k]? ≠ some (Obj.cells c t (0, 0))) : KpR n₀ t A W :=
  ⟨h.1.grown hg hB fun k e => (hr k e).1, fun k c hk => by
    have h1 := h.2 k c hk
    rw [hg.block k (Array.getElem?_eq_some_iff.1 h1).1 (fun e => (hr k e.symm).2 c h1)]; exact h1⟩
theorem KpR.alloc {n₀ : Nat} {t : TypeId} {A W : World} (h : KpR n₀ t A W) (hB : n₀ ≤ W.heap.size) (o : Obj) : KpR n₀ t A (W.alloc o) := h.grown (World.grownBy_alloc W o none) hB (fun k e => by cases e)
theorem KpR.of_below {n₀ : Nat} {t : TypeId} {W W' : World} (h : Below W.heap.size W W') (hn : n₀ ≤ W.heap.size) : KpR n₀ t W W' :=
  ⟨h.mono hn, fun k _ hk => (h.block k (Array.getElem?_eq_some_iff.1 hk).1).trans hk⟩
def dn (l : List Nat) : List (Fin l.length) := (List.finRange l.length).reverse
end Go.Proofs.YtbhkfemebionnaaGreatDoor

namespace Go.Proofs.YtbhkfemebionnaaGreatDoor
open Go.RowKit Go.Shelf
attribute [local go_sem] Oper.semAt_some

end Go.Proofs.YtbhkfemebionnaaGreatDoor

namespace Go.Proofs.YtbhkfemebionnaaGreatDoor
open Go.RowKit

end Go.Proofs.YtbhkfemebionnaaGreatDoor

namespace Go.Proofs.YtbhkfemebionnaaGreatDoor
open Go.RowKit

end Go.Proofs.YtbhkfemebionnaaGreatDoor

namespace Go.Proofs.YtbhkfemebionnaaGreatDoor
open Go.RowKit Go.Shelf
attribute [local go_sem] Oper.semAt_some

end Go.Proofs.YtbhkfemebionnaaGreatDoor

namespace Go.Proofs.YtbhkfemebionnaaGreatDoor
open Go.RowKit Go.Shelf
attribute [local go_sem] Oper.semAt_some

end Go.Proofs.YtbhkfemebionnaaGreatDoor

namespace Go.Proofs.YtbhkfemebionnaaGreatDoor
open Go.RowKit

end Go.Proofs.YtbhkfemebionnaaGreatDoor

namespace Go.Proofs.YtbhkfemebionnaaGreatDoor
open Go.RowKit

end Go.Proofs.YtbhkfemebionnaaGreatDoor

namespace Go.Proofs.YtbhkfemebionnaaGreatDoor
open Go.RowKit

end Go.Proofs.YtbhkfemebionnaaGreatDoor

namespace Go.Proofs.YtbhkfemebionnaaGreatDoor
open Go.RowKit

end Go.Proofs.YtbhkfemebionnaaGreatDoor

namespace Go.Proofs.YtbhkfemebionnaaGreatDoor
open Go.RowKit

end Go.Proofs.YtbhkfemebionnaaGreatDoor

namespace Go.Proofs.YtbhkfemebionnaaGreatDoor
open Go.RowKit

end Go.Proofs.YtbhkfemebionnaaGreatDoor

namespace Go.Proofs.YtbhkfemebionnaaGreatDoor
open Go.RowKit

end Go.Proofs.YtbhkfemebionnaaGreatDoor

namespace Go.Proofs.YtbhkfemebionnaaGreatDoor
open Go.RowKit

end Go.Proofs.YtbhkfemebionnaaGreatDoor

namespace Go.Proofs.YtbhkfemebionnaaGreatDoor
open Go.RowKit Go.Shelf
attribute [local go_sem] Oper.semAt_some

end Go.Proofs.YtbhkfemebionnaaGreatDoor

namespace Go.Proofs.YtbhkfemebionnaaGreatDoor
open Go.RowKit

end Go.Proofs.YtbhkfemebionnaaGreatDoor

namespace Go.Proofs.YtbhkfemebionnaaGreatDoor
open Go.RowKit

end Go.Proofs.YtbhkfemebionnaaGreatDoor

namespace Go.Proofs.YtbhkfemebionnaaGreatDoor
open Go.RowKit

end Go.Proofs.YtbhkfemebionnaaGreatDoor

namespace Go.Proofs.YtbhkfemebionnaaGreatDoor
open Go.RowKit

def Rng (w : World) : Prop := ∃ tp p, w.var? Tryz.prog "strconv.ErrRange" = some #[.iface tp p]
theorem globRng : Tryz.prog.globalNamed "strconv.ErrRange" = some 2 := by kernel_rfl
end Go.Proofs.YtbhkfemebionnaaGreatDoor

namespace Go.Proofs.YtbhkfemebionnaaGreatDoor
open Go.ChangeShapes Go.WideShapes Go.ChangeAt Go.RowKit Go.Deep

theorem own_ : ownKnob Tryz.prog.godebug = none := by kernel_rfl
theorem laidOut : laidOutB Tryz.prog = true := by kernel_rfl

def L3 : List (String × DataW Unit) := Rows.topLooksPartsRow.laid
theorem tabType : (Tryz.prog.globals[3]?).map (·.type) = some 216 := by kernel_rfl
theorem cells20 : Tryz.prog.cellsOf 216 = 20 := by kernel_rfl
theorem cellsU : Tryz.prog.cellsOf 162 = 1 := by kernel_rfl
theorem tabData_eq : (Rows.laid_internal_strconv_uint64pow10 : DataW Unit) = Lib.tabData .u64 Lib.pow10Tab := by kernel_rfl
theorem tab_of_laid {W : World} (h : laidMetH Tryz.prog L3 W) : Tab W := by
  have h1 : laidMet Tryz.prog L3 W := (laidMetH_iff.1 h).1
  obtain ⟨g, t, cs, fuel, p, hg, ht, hv, hd⟩ := Lib.laidMet.reads (n := "internal/strconv.uint64pow10") (d := Rows.laid_internal_strconv_uint64pow10) h1 (.tail _ (.tail _ (.head _)))
  obtain rfl := Option.some.inj (globTab.symm.trans hg)
  obtain rfl := Option.some.inj (tabType.symm.trans ht)
  rw [tabData_eq] at hd
  unfold Tab Lib.TabIs
  rw [hv, ← Lib.cells_of_tab Tryz.underlying216 Tryz.underlying162 cellsU cells20 hd]
theorem rngType : (Tryz.prog.globals[2]?).map (·.type) = some 185 := by kernel_rfl
theorem cellsEs : Tryz.prog.cellsOf 209 = 1 := by kernel_rfl
theorem cellsSt : Tryz.prog.cellsOf 9 = 1 := by kernel_rfl
theorem star_es : "*" ++ "errors.errorString" = "*errors.errorString" := by decide
theorem row_es (u : TypeId) (h : Tryz.prog.typeName? 3 u = some "*errors.errorString") : u = 207 :=
  typeName_ptr_named (nm := "errors.errorString") (by rw [star_es]; kernel_rfl) (by kernel_rfl) (by decide) u (by rw [star_es]; exact h)
theorem rng_of_laid {W : World} (h : laidMetH Tryz.prog L3 W) : Rng W := by
  have h1 : laidMet Tryz.prog L3 W := (laidMetH_iff.1 h).1
  obtain ⟨a0, s0, hv0, -, -, -⟩ := laid_sentinel (n := "strconv.ErrRange") h1.tail.tail.tail globRng rngType Tryz.underlying185 row_es Tryz.underlying207 Tryz.underlying209 rfl rfl Tryz.underlying9 cellsEs cellsSt
  exact ⟨_, _, hv0⟩

def litCells : List (DataW Unit) → List Value
  | .lit (.int k z) :: r => .int k z :: litCells r
  | _ :: r => .int .u8 0 :: litCells r
  | [] => []
def cell1 : DataW Unit → List Value
  | .lit (.int k z) => [.int k z]
  | .agg l => litCells l
  | _ => []
def debits : DataW Unit → List Value
  | .agg l => l.flatMap cell1
  | _ => []

noncomputable def laidWorld (os : Os) : World :=
  let N := (World.settled Tryz.prog os).heap.size
  let w0 := World.holding Tryz.prog os ⟨#[.cells #[.string ⟨[118, 97, 108, 117, 101, 32, 111, 117, 116, 32, 111, 102, 32, 114, 97, 110, 103, 101].toArray⟩] 209, .cells #[.string ⟨[105, 110, 118, 97, 108, 105, 100, 32, 115, 121, 110, 116, 97, 120].toArray⟩] 209], #[], []⟩
  let put (h : Array Obj) (g : Nat) (cs : Array Value) : Array Obj := h.modify g fun
    | .cells _ t frozen => .cells cs t frozen
    | o => o
  let h1 := put w0.heap 4 (debits (Rows.laid_math_bits_deBruijn32tab : DataW Unit)).toArray
  let h2 := put h1 5 (debits (Rows.laid_math_bits_deBruijn64tab : DataW Unit)).toArray
  let h3 := put h2 3 (Lib.pow10Tab.map fun z => Value.int .u64 z).toArray
  let h4 := put h3 2 #[.iface 207 (.pointer (some ⟨N + 0, 0, none⟩))]
  let h5 := put h4 1 #[.iface 207 (.pointer (some ⟨N + 1, 0, none⟩))]
  { w0 with heap := h5 }
theorem laid_met (os : Os) (args : Array Value) : laidMetH Tryz.prog L3 ((laidWorld os).forCall (fun _ _ => 0) ⟨#[], args, []⟩).memory :=
  laidMetH_of_parts (laidMet_of_run3 10 (by kernel_rfl) (by kernel_rfl) (by kernel_rfl)) (by kernel_rfl)

def Laid (w : World) : Prop := Tab w ∧ Rng w
theorem laid_of {W : World} (h : laidMetH Tryz.prog L3 W) : Laid W := ⟨tab_of_laid h, rng_of_laid h⟩
end Go.Proofs.YtbhkfemebionnaaGreatDoor
